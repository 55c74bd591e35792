/- An abstract machine for the model and the rules of its walk, each proved sound over the model; no condition. -/
import Derived.Test.YtbiefppedlodiaaGreatDoorAMp4
open Array renaming getElem?_eq_some_iff -> ao, replicate -> cb
open Bool renaming and_eq_true -> aw, or_eq_true -> cp
open Classical renaming choose -> cz, choose_spec -> ct
open Go.Oper renaming apart_spec -> cx
open Go.Region renaming before -> bx, binds -> cW, ready -> bO
open List renaming all_eq_true -> aB, cons_append -> bt, map_cons -> aG, mem_cons_of_mem -> aQ, mem_filterMap -> cw, mem_map -> bR, nil_append -> aP, range -> aq
open List.cons renaming injEq -> cM
set_option linter.unusedSimpArgs false
set_option linter.unusedVariables false
namespace Go.AM
open Go Go.RowKit
theorem ff1(a:Bool):(a=false)∨(a=true):=by cases a<;>simp
theorem ff2(a b:Bool):(a=false)∨(a=true∧b=false)∨(a=true∧b=true):=by
  cases a
  · exact .inl rfl
  · rcases ff1 b with h|h
    · exact .inr (.inl ⟨rfl,h⟩)
    · exact .inr (.inr (⟨rfl,h⟩))
theorem ff3(a b c:Bool):(a=false)∨(a=true∧b=false)∨(a=true∧b=true∧c=false)∨(a=true∧b=true∧c=true):=by
  cases a
  · exact .inl rfl
  · rcases ff2 b c with h|h|h
    · exact .inr (.inl ⟨rfl,h⟩)
    · exact .inr (.inr (.inl ⟨rfl,h⟩))
    · exact .inr (.inr (.inr (⟨rfl,h⟩)))
theorem ff4(a b c d:Bool):(a=false)∨(a=true∧b=false)∨(a=true∧b=true∧c=false)∨(a=true∧b=true∧c=true∧d=false)∨(a=true∧b=true∧c=true∧d=true):=by
  cases a
  · exact .inl rfl
  · rcases ff3 b c d with h|h|h|h
    · exact .inr (.inl ⟨rfl,h⟩)
    · exact .inr (.inr (.inl ⟨rfl,h⟩))
    · exact .inr (.inr (.inr (.inl ⟨rfl,h⟩)))
    · exact .inr (.inr (.inr (.inr (⟨rfl,h⟩))))
theorem ff5(a b c d e:Bool):(a=false)∨(a=true∧b=false)∨(a=true∧b=true∧c=false)∨(a=true∧b=true∧c=true∧d=false)∨(a=true∧b=true∧c=true∧d=true∧e=false)∨(a=true∧b=true∧c=true∧d=true∧e=true):=by
  cases a
  · exact .inl rfl
  · rcases ff4 b c d e with h|h|h|h|h
    · exact .inr (.inl ⟨rfl,h⟩)
    · exact .inr (.inr (.inl ⟨rfl,h⟩))
    · exact .inr (.inr (.inr (.inl ⟨rfl,h⟩)))
    · exact .inr (.inr (.inr (.inr (.inl ⟨rfl,h⟩))))
    · exact .inr (.inr (.inr (.inr (.inr (⟨rfl,h⟩)))))
theorem tt1(a:Bool):(a=true)∨(a=false):=by cases a<;>simp
theorem tt2(a b:Bool):(a=true)∨(a=false∧b=true)∨(a=false∧b=false):=by
  cases a
  · rcases tt1 b with h|h
    · exact .inr (.inl ⟨rfl,h⟩)
    · exact .inr (.inr (⟨rfl,h⟩))
  · exact .inl rfl
theorem tt3(a b c:Bool):(a=true)∨(a=false∧b=true)∨(a=false∧b=false∧c=true)∨(a=false∧b=false∧c=false):=by
  cases a
  · rcases tt2 b c with h|h|h
    · exact .inr (.inl ⟨rfl,h⟩)
    · exact .inr (.inr (.inl ⟨rfl,h⟩))
    · exact .inr (.inr (.inr (⟨rfl,h⟩)))
  · exact .inl rfl
theorem tt4(a b c d:Bool):(a=true)∨(a=false∧b=true)∨(a=false∧b=false∧c=true)∨(a=false∧b=false∧c=false∧d=true)∨(a=false∧b=false∧c=false∧d=false):=by
  cases a
  · rcases tt3 b c d with h|h|h|h
    · exact .inr (.inl ⟨rfl,h⟩)
    · exact .inr (.inr (.inl ⟨rfl,h⟩))
    · exact .inr (.inr (.inr (.inl ⟨rfl,h⟩)))
    · exact .inr (.inr (.inr (.inr (⟨rfl,h⟩))))
  · exact .inl rfl
theorem tt5(a b c d e:Bool):(a=true)∨(a=false∧b=true)∨(a=false∧b=false∧c=true)∨(a=false∧b=false∧c=false∧d=true)∨(a=false∧b=false∧c=false∧d=false∧e=true)∨(a=false∧b=false∧c=false∧d=false∧e=false):=by
  cases a
  · rcases tt4 b c d e with h|h|h|h|h
    · exact .inr (.inl ⟨rfl,h⟩)
    · exact .inr (.inr (.inl ⟨rfl,h⟩))
    · exact .inr (.inr (.inr (.inl ⟨rfl,h⟩)))
    · exact .inr (.inr (.inr (.inr (.inl ⟨rfl,h⟩))))
    · exact .inr (.inr (.inr (.inr (.inr (⟨rfl,h⟩)))))
  · exact .inl rfl
theorem tt6(a b c d e f:Bool):(a=true)∨(a=false∧b=true)∨(a=false∧b=false∧c=true)∨(a=false∧b=false∧c=false∧d=true)∨(a=false∧b=false∧c=false∧d=false∧e=true)∨(a=false∧b=false∧c=false∧d=false∧e=false∧f=true)∨(a=false∧b=false∧c=false∧d=false∧e=false∧f=false):=by
  cases a
  · rcases tt5 b c d e f with h|h|h|h|h|h
    · exact .inr (.inl ⟨rfl,h⟩)
    · exact .inr (.inr (.inl ⟨rfl,h⟩))
    · exact .inr (.inr (.inr (.inl ⟨rfl,h⟩)))
    · exact .inr (.inr (.inr (.inr (.inl ⟨rfl,h⟩))))
    · exact .inr (.inr (.inr (.inr (.inr (.inl ⟨rfl,h⟩)))))
    · exact .inr (.inr (.inr (.inr (.inr (.inr (⟨rfl,h⟩))))))
  · exact .inl rfl
def kj.dV(a b:List AV):Prop:=∀G v,dP G a v->dP G b v
theorem kj.dV.nil:kj.dV [] []:=fun _ _ h=>h
theorem kj.dV.refl(a:List AV):kj.dV a a:=fun _ _ h=>h
theorem kj.dV.cons{x y:AV}{xs ys:List AV}(h:x.dV y)(k:kj.dV xs ys):kj.dV (x::xs) (y::ys):=by
  intro G v hv;simp only[dP] at hv⊢;obtain⟨u,us,rfl,h1,h2⟩:=hv;exact⟨u,us,rfl,h G u h1,k G us h2⟩
theorem AV.qS{xs ys:List AV}(h:kj.dV xs ys):(AV.agg xs).dV (.agg ys):=by
  intro G v hv;simp only[dQ] at hv⊢;obtain⟨vs,rfl,h1⟩:=hv;exact⟨vs,rfl,h G vs h1⟩
theorem dS.mB{P:Program}{Γ:Nat->List AV}{f:FuncId}{args Xt:List AV}{s:AS}{Q:AV->AS->Prop}(h:kj.dV args Xt)(k:dS P Γ f Xt s Q):dS P Γ f args s Q:=
  fun G w vs hs hv=>k G w vs hs (h G vs hv)
end Go.AM
namespace Go.AM
open Go Go.RowKit
variable{P:Program}{Γ:Nat->List AV}
theorem kx.oH{N:Nat}{E:Env}{s:AS}{d o:Nat}{cs:List AV}(hE:E d=.ptr o 0)(ho:s.dD o=some cs):
    kx Γ N E s (dY E d (.ij cs)) (s.drop o):=by
  intro G a w hr;obtain⟨b,vs,h1,h2,h3,h4,h5⟩:=hr.st.freeze ho;refine⟨_,h3,h5,hr.size,fun i=>?_,hr.defers.trans h3.df.symm⟩;simp only[dY];split
  · rename_i e;subst e;have:=hr.tmps i;rw[hE] at this;simp only[dQ] at this;obtain⟨b',k1,k2⟩:=this;rw[h1] at k1;cases k1;rw[k2];simp only[dQ];exact⟨b,0,vs,rfl,dP.mono h3 _ _ h2,h4⟩
  · exact dQ.mono h3 _ _ (hr.tmps i)
theorem AS.drop_set{s:AS}{o:Nat}(ho:s.dD o=none)(cs:List AV):(s.set o cs).drop o=s:=by
  cases s with
  |mk dD own=>
    simp only[AS.set,AS.drop,AS.mk.injEq,and_true];funext i;simp only[dY];split
    · rename_i e;subst e;exact ho.symm
    · rfl
theorem ev{N:Nat}{E:Env}{s:AS}{Q:Exit->Env->AS->Prop}(d:Nat){id:Nat}{L:List Oper}{y:Code}(hd:d∈fT L)
    (h:∀K:Env->AS->Prop,(∀E s o cs,E d=.ptr o 0->s.dD o=none->fY P Γ N y Q (dY E d (.ij cs)) s->K E (s.set o cs))->AY P Γ N L.toArray L K E s):fY P Γ N (.seq (.region id L.toArray false) y) Q E s:=by
  refine oX (sG ?_);have:=h (fun E' s'=>∃mW mb,kx Γ N E' s' mW mb∧(∀i,i∉fT L->mW i=E' i)∧dJ (fY P Γ N y Q) Q .normal mW mb) ?_
  · rw[ay] at this;simpa using this
  · intro E' s' o cs h1 h2 h3;refine⟨dY E' d (.ij cs),s',?_,?_,h3⟩
    · have:=kx.oH (Γ:=Γ) (N:=N) (E:=E') (s:=s'.set o cs) (d:=d) h1 (AS.bG _ _ _);rwa [AS.drop_set h2] at this
    · intro i hi;exact lE _ _ (fun e=>hi (e ▸ hd))
end Go.AM
namespace Go.AM
open Go Go.RowKit
variable{P:Program}{Γ:Nat->List AV}
abbrev xjC(st:pn):List AV:=[dm st.1 .any,.v (.int .i64 st.2)]
abbrev xh4(st:pn):List AV:=[.v (.string ⟨st.1.toArray⟩),.v (.int .i64 st.2)]
theorem dS.forget{f:FuncId}{args:List AV}{s:AS}{Q R:AV->AS->Prop}(h:dS P Γ f args s Q)(k:∀r s',Q r s'->∃mb,mb.le s'∧R r mb):dS P Γ f args s R:=by
  intro G w vs hs hv;refine(h G w vs hs hv).mono ?_;rintro e w' ⟨G',r,v,s',h1,h2,h3,h4,h5⟩;obtain⟨mb,k1,k2⟩:=k r s' h5;exact⟨G',r,v,mb,h1,h2,h3.mono k1,h4,k2⟩
theorem AS.cO(s:AS){o p:Nat}(h:p≠o)(cs:List AV):(s.set o cs).dD p=s.dD p:=by simp[AS.set,dY,h]
theorem AS.km{s:AS}{o p:Nat}{cs:List AV}(h:(s.set o cs).dD p=none):p≠o∧s.dD p=none:=by
  by_cases e:p=o
  · subst e;simp[AS.set] at h
  · exact⟨e,by simpa[AS.set,dY,e] using h⟩
theorem kn{E:Env}{s:AS}{fV:AV->AS->Prop}{a T t o off:Nat}{cs:List AV}{v:AV}(h1:E a=.ptr o off)(h2:s.dD o=some cs)(h3:P.cellsOf T≠0)(h4:tY P T (cs.drop off)=some v)
    (h:∃r s',(AV.ka [v,E t]).dV r∧s'.le s∧fV r s'):fX P [.cell a T,.tmp t] fV .ret E s:=by
  simp only[fX,fe,fq,iu,h1,h2,if_neg h3,h4];exact h
theorem kJ{E:Env}{s:AS}{fV:AV->AS->Prop}{a T o off:Nat}{cs:List AV}{v:AV}(h1:E a=.ptr o off)(h2:s.dD o=some cs)(h3:P.cellsOf T≠0)(h4:tY P T (cs.drop off)=some v)
    (h:∃r s',v.dV r∧s'.le s∧fV r s'):fX P [.cell a T] fV .ret E s:=by
  simp only[fX,fe,fq,iu,h1,h2,if_neg h3,h4];exact h
theorem AS.Vl(s:AS){p o:Nat}(h:p≠o)(a b c:List AV):((s.set p a).set o b).set p c=(s.set p c).set o b:=by
  simp only[AS.set,AS.mk.injEq,and_true];funext i;simp only[dY];by_cases h1:i=p
  · subst h1;simp[h]
  · simp[h1]
end Go.AM
namespace Go.AM
open Go Go.RowKit
theorem lN{a b:Ty}{nA:List AV}(h:Rz (.cons a b) nA):∃x y,nA=x++y∧kI a x∧Rz b y:=by simpa only[Rz] using h
theorem Oi{nA:List AV}(h:Rz .nil nA):nA=[]:=by simpa only[Rz] using h
theorem Br{b:Ty}{nA:List AV}(h:kI (.struct b) nA):Rz b nA:=by simpa only[kI] using h
theorem ve{k:IntKind}{nA:List AV}(h:kI (.int k) nA):∃n,nA=[.v (.int k n)]∧(Lit.int k n).wf=true:=by simpa only[kI] using h
abbrev I7:Ty:=.slice 1 (.int .u8)
abbrev Hy:Ty:=.int .i64
end Go.AM
namespace Go.AM
open Go Go.RowKit
variable{rd:Option Nat}{P:Program}{Γ:Nat->List AV}{G:Gh}{s:AS}{w:World}
abbrev Fz:=List (Nat×List AV)
def pO(F:Fz)(s:AS):Prop:=∀x∈F,s.dD x.1=some x.2
def Bs(F:Fz)(o:Nat):Option (List AV):=(F.find? (fun x=>x.1==o)).map (·.2)
theorem Mz{F:Fz}{s:AS}(h:pO F s){o:Nat}{cs:List AV}(hg:Bs F o=some cs):s.dD o=some cs:=by
  unfold Bs at hg;rw[Option.map_eq_some_iff] at hg;obtain⟨x,h1,rfl⟩:=hg;have h2:=List.mem_of_find?_eq_some h1;have h3:=List.find?_some h1;simp only[beq_iff_eq] at h3;rw[<-h3];exact h x h2
def gS(P:Program)(F:Fz)(ρ:Operand->AV)(op:Op):Option AV:=
  match op with
  |.load T x=>match ρ x with
    |.ptr o off=>match Bs F o with
      |some cs=>if P.cellsOf T=0 then none else tY P T (cs.drop off)
      |none=>none
    |_=>none
  |_=>none
theorem MA{F:Fz}{ρ ρ':Operand->AV}{op:Op}(h:∀x∈op.operands,ρ x=ρ' x):gS P F ρ op=gS P F ρ' op:=by
  cases op<;>simp only[gS];case load T x=>rw[h x (by simp[Op.operands])]
section
variable{N:Nat}{ops:Array Oper}
def gY(ops:Array Oper)(o:Oper)(E:Env)(v:Option AV):Option AV:=
  match o.guard with
  |none=>v
  |some (j,want)=>
    match tm ops j with
    |none=>none
    |some d=>
      match E d with
      |.v (.bool t)=>if t=want then v else some (.v undef)
      |.v (.tuple _)=>some (.v undef)
      |_=>none
def wJ(P:Program)(Γ:Nat->List AV)(ops:Array Oper)(F:Fz)(m:Nat)(o:Oper)(E:Env):Option AV:=
  gY ops o E (if m=1 then gS P F (ef Γ E) o.op else gG P (ef Γ E) o.op)
theorem rS{F:Fz}{m:Nat}{o:Oper}{E E':Env}(h:∀d,d∈o.looksAt ops->E' d=E d):wJ P Γ ops F m o E'=wJ P Γ ops F m o E:=by
  have lJ:∀x∈o.op.operands,ef Γ E' x=ef Γ E x:=fun x hx=>by
    cases x with
    |tmp t=>exact h t (List.mem_append_left _ (cw.2 ⟨.tmp t,by simpa using hx,rfl⟩))
    |const v=>rfl
    |global g=>rfl
    |func f=>rfl
  unfold wJ;rw[MA lJ,tp lJ];unfold gY;split
  · rfl
  · rename_i j want hg;split
    · rfl
    · rename_i d hj;have :E' d=E d:=h d (by
        by_cases hd:d∈o.looksAt ops
        · exact hd
        · exact absurd hj (rR hd hg))
      rw[this]
def oz(L:List (Oper×Nat)):Bool:=L.any fun x=>x.2==1
def uT(P:Program)(Γ:Nat->List AV)(N:Nat)(ops:Array Oper)(F:Fz):List (Oper×Nat)->(Env->AS->Prop)->Env->AS->Prop
  |[],K,E,s=>K E s
  |(o,m)::rest,K,E,s=>
    if m<=1 then(∀d,o.dst=some d->d<N)∧match wJ P Γ ops F m o E with |some v=>uT P Γ N ops F rest K (eR E o.dst v) s|none=>False
    else AX P Γ N ops [o] (fun E' s'=>((m=2∨oz rest=true)->pO F s')∧uT P Γ N ops F rest K E' s') E s
theorem yE{F:Fz}:∀(L:List (Oper×Nat)){K K':Env->AS->Prop}{E:Env}{s:AS},(∀E s,K E s->K' E s)->uT P Γ N ops F L K E s->uT P Γ N ops F L K' E s
  |[],K,K',E,s,hk,h=>hk _ _ h
  |(o,m)::L,K,K',E,s,hk,h=>by
    simp only[uT] at h⊢;split at h
    · rename_i he;rw[if_pos he];refine⟨h.1,?_⟩;have h:=h.2;split at h
      · exact yE L hk h
      · exact h
    · rename_i he;rw[if_neg he];exact gi _ (fun E s h=>⟨h.1,yE L hk h.2⟩) h
theorem oI{x:Oper×Nat}{L:List (Oper×Nat)}:oz (x::L)=((x.2==1)||oz L):=rfl
theorem tr{L M:List (Oper×Nat)}:oz (L++M)=(oz L||oz M):=by simp[oz]
theorem RF{F:Fz}{o:Oper}{m:Nat}{L:List (Oper×Nat)}{E:Env}{K:Env->AS->Prop}(hp:oz ((o,m)::L)=true->pO F s)(h:uT P Γ N ops F ((o,m)::L) K E s):
    AX P Γ N ops [o] (fun E' s'=>(oz L=true->pO F s')∧uT P Γ N ops F L K E' s') E s:=by
  have Xu:oz L=true->pO F s:=fun h=>hp (by rw[oI,h,Bool.or_true]);simp only[uT] at h;split at h
  · rename_i hm;have core:∀v,(if m=1 then gS P F (ef Γ E) o.op else gG P (ef Γ E) o.op)=some v->uT P Γ N ops F L K (eR E o.dst v) s->
        fS P Γ (ef Γ E) s (fun r s'=>(oz L=true->pO F s')∧uT P Γ N ops F L K (eR E o.dst r) s') o.op:=by
      intro v hv hK;by_cases h1:m=1
      · rw[if_pos h1] at hv;have hP:pO F s:=hp (by rw[oI];simp[h1]);cases lJ:o.op<;>rw[lJ] at hv<;>simp only[gS] at hv<;>try(cases hv;done)
        rename_i T x;cases hx:ef Γ E x<;>rw[hx] at hv<;>simp only at hv<;>try(cases hv;done)
        rename_i ob off;cases hg:Bs F ob with
        |none=>rw[hg] at hv;cases hv
        |some cs=>
          rw[hg] at hv;simp only at hv;split at hv
          · cases hv
          · rename_i hc;have ha:gG P (ef Γ E) (.load T x)=none:=(by simp only[gG,hx]);simp only[fS,ha,yz,hx,Mz hP hg,hv];exact⟨hc,Xu,hK⟩
      · rw[if_neg h1] at hv;simp only[fS,hv];exact⟨Xu,hK⟩
    simp only[AX];refine⟨h.1,?_⟩;have h:=h.2;unfold wJ gY at h;cases hg:o.guard with
    |none=>
      simp only[hg] at h;split at h
      · rename_i v hv;exact core v hv h
      · exact h.elim
    |some p=>
      obtain⟨j,want⟩:=p;simp only[hg] at h;cases hj:tm ops j with
      |none=>simp[hj] at h
      |some d=>
        simp only[hj] at h⊢;split
        · rename_i t hE;simp only[hE] at h;split
          · rename_i ht;simp only[if_pos ht] at h;split at h
            · rename_i v hv;exact core v hv h
            · exact h.elim
          · rename_i ht;simp only[if_neg ht] at h;exact⟨Xu,h⟩
        · rename_i c hE;simp only[hE] at h;exact⟨Xu,h⟩
        · rename_i gP Aa;split at h
          · rename_i v hv;split at hv
            · rename_i t hE;exact absurd hE (gP t)
            · rename_i c hE;exact absurd hE (Aa c)
            · cases hv
          · exact h
  · exact gi _ (fun E' s' hE=>⟨fun hn=>hE.1 (.inr hn),hE.2⟩) h
theorem Df{F:Fz}{y:Oper}{m:Nat}(hm:m<=1){L2:List (Oper×Nat)}{K:Env->AS->Prop}:∀(L1:List (Oper×Nat)){G:Gh}{E:Env}{s:AS}{a:Act}{w:World},(∀x∈L1,jb ops x.1 y)->(oz (L1++(y,m)::L2)=true->pO F s)->uT P Γ N ops F (L1++(y,m)::L2) K E s->Rel Γ N G E s a w->
    (∀d,y.dst=some d->d<N)∧∃v,wJ P Γ ops F m y E=some v
  |[],G,E,s,a,w,_,hp,h,hr=>by
    simp only[aP,uT,if_pos hm] at h;refine⟨h.1,?_⟩;have h:=h.2;split at h
    · rename_i v hv;exact⟨v,hv⟩
    · exact h.elim
  |(x,ex)::L1,G,E,s,a,w,nG,hp,h,hr=>by
    obtain⟨G',E',s',a',w',xo,hK,hf⟩:=nz (RF hp h) hr;obtain⟨h1,v,h2⟩:=Df hm L1 (fun x hx=>nG x (aQ _ hx)) hK.1 hK.2 xo;refine⟨h1,v,?_⟩;rw[<-h2];refine(rS fun d hd=>hf d fun e=>?_).symm;exact(cx (nG (x,ex) sM)).1 d e hd
theorem qT{F:Fz}{y:Oper}{m:Nat}(hm:m<=1){L2:List (Oper×Nat)}{K:Env->AS->Prop}{v:AV}:∀(L1:List (Oper×Nat)){E:Env}{s:AS},(∀x∈L1,jb ops x.1 y)->wJ P Γ ops F m y E=some v->uT P Γ N ops F (L1++(y,m)::L2) K E s->
    uT P Γ N ops F (L1++L2) K (eR E y.dst v) s
  |[],E,s,_,hv,h=>by
    simp only[aP,uT,if_pos hm,hv] at h;exact h.2
  |(x,ex)::L1,E,s,nG,hv,h=>by
    obtain⟨a1,a2,a3⟩:=cx (nG (x,ex) sM);have rH:∀x∈L1,jb ops x.1 y:=fun x hx=>nG x (aQ _ hx);have Rj:∀E':Env,(∀i,x.dst≠some i->E' i=E i)->wJ P Γ ops F m y E'=some v:=fun E' hE=>by
      rw[rS (E:=E) fun d hd=>hE d fun e=>a1 d e hd,hv]
    simp only[bt,uT] at h⊢;split at h
    · rename_i he;rw[if_pos he];refine⟨h.1,?_⟩;have h:=h.2;rw[rS (E:=E) fun d hd=>fR fun e=>a3 d e hd];split at h
      · rename_i u hu;simp only[hu];rw[qA (fun d h1 h2=>a2 d h2 h1)];exact qT hm L1 rH (Rj _ fun i hi=>fR hi) h
      · exact h.elim
    · rename_i he;rw[if_neg he];refine(u9 (fun d hd=>a3 d hd) (fun d hd e=>a2 d e hd)).2 ?_;refine gi _ (fun E' s' hE=>?_) (gu h);refine⟨fun hn=>hE.1.1 (hn.imp id fun hn=>?_),qT hm L1 rH (Rj E' hE.2) hE.1.2⟩;rw[tr] at hn⊢;rw[oI];simp only[cp] at hn⊢;rcases hn with hn|hn
      · exact .inl hn
      · exact .inr (.inr hn)
theorem wL{F:Fz}{y:Oper}{m:Nat}(hm:¬m<=1){L2:List (Oper×Nat)}{K:Env->AS->Prop}:∀(L1:List (Oper×Nat)){E:Env}{s:AS},(∀x∈L1,jb ops x.1 y∧x.2<=1∧(m≠2->x.2≠1))->uT P Γ N ops F (L1++(y,m)::L2) K E s->
    AX P Γ N ops [y] (fun E' s'=>((m=2∨oz (L1++L2)=true)->pO F s')∧uT P Γ N ops F (L1++L2) K E' s') E s
  |[],E,s,_,h=>by simpa only[aP,uT,if_neg hm] using h
  |(x,ex)::L1,E,s,nG,h=>by
    obtain⟨Mi,hex,hl⟩:=nG (x,ex) sM;simp only at hex hl;obtain⟨a1,a2,a3⟩:=cx Mi;have rH:∀x∈L1,jb ops x.1 y∧x.2<=1∧(m≠2->x.2≠1):=fun x hx=>nG x (aQ _ hx);simp only[bt,uT,if_pos hex] at h;obtain⟨h0,h⟩:=h;split at h
    · rename_i v hv;have h1:=wL hm L1 rH h;have h2:=(u9 (fun d hd=>a1 d hd) (fun d hd=>a2 d hd)).1 h1;refine gi _ (fun E' s' hE=>⟨?_,?_⟩) (gu h2)
      · intro hn;refine hE.1.1 ?_;by_cases h2:m=2
        · exact .inl h2
        · refine .inr ?_;rcases hn with hn|hn
          · exact absurd hn h2
          · rw[bt,oI] at hn;simpa[hl h2] using hn
      · simp only[bt,uT,if_pos hex];refine⟨h0,?_⟩;rw[rS (E:=E) fun d hd=>hE.2 d fun e=>a3 d e hd,hv];exact hE.1.2
    · exact h.elim
def lq(fl ld lx:List Nat)(i:Nat):Nat:=if ld.contains i then 1 else if fl.contains i then 2 else if lx.contains i then 3 else 0
def JR(ops:Array Oper)(D:List Nat)(mk:Nat->Nat):Bool:=
  (aq ops.size).all fun j=>(aq j).all fun i=>
    match ops[i]?,ops[j]? with
    |some x,some y=>(D.getD j 0).testBit i||(x.apart ops y&& !(decide (2<=mk i)&&decide (2<=mk j))&& !(mk i==1&&mk j==3))
    |_,_=>true
def yF(ops:Array Oper)(mk:Nat->Nat):Bool:=Bm ops (bx ops).toList&&JR ops (bx ops).toList mk
def kA(ops:Array Oper)(mk:Nat->Nat)(i:Nat):Oper×Nat:=((ops[i]?).getD default,mk i)
theorem Hz{F:Fz}{mk:Nat->Nat}(JS:∀i,mk i<=3){Q:Exit->Act->World->Prop}{K:Env->AS->Prop}(mR:yF ops mk=true):
    ∀(fuel:Nat)(listed:Array Bool){G:Gh}{E:Env}{s:AS}{a:Act}{w:World},listed.size=ops.size->(left ops listed).length<=fuel->
      (∀(i:Nat)(o:Oper),ops[i]? =some o->listed.getD i true=true->∀e∈o.after.toList,cW .any e=true->listed.getD e.on false=true)->
      (oz ((left ops listed).map (kA ops mk))=true->pO F s)->uT P Γ N ops F ((left ops listed).map (kA ops mk)) K E s->Rel Γ N G E s a w->
      (∀G' E' s' a' w',G.le G'->Rel Γ N G' E' s' a' w'->K E' s'->Q .normal a' w')->wpAnyIn (yq rd) 0 P .any ops Q fuel listed a w:=by
  simp only[yF,aw] at mR
  obtain⟨Ab,qQ⟩:=mR
  intro fuel
  have wo:∀(listed:Array Bool),bO .any ops listed=[]->left ops listed=[]:=by
    intro listed h
    -- the first that is left could go
    cases hl:left ops listed with
    |nil=>rfl
    |cons i L=>
      exfalso
      have hi:i∈left ops listed:=by rw[hl];simp
      obtain⟨h1,h2⟩:=mem_left.1 hi
      have C0:∀j,j<i->listed.getD j true=true:=by
        intro j hj
        cases Jw:listed.getD j true with
        |true=>rfl
        |false=>
          exfalso
          have Hj:j∈left ops listed:=mem_left.2 ⟨oM,Jw⟩
          have hs:(left ops listed).Pairwise (· < ·):=by
            unfold left
            exact List.Pairwise.filter _ List.pairwise_lt_range
          rw[hl] at hs Hj
          rcases List.mem_cons.1 Hj with rfl|Hj
          · omega
          · have:=(List.pairwise_cons.1 hs).1 j Hj
            omega
      have ho:ops[i]? =some ops[i]:=by simp[h1]
      have hr:i∈bO .any ops listed:=by
        rw[mem_ready]
        refine⟨h2,_,ho,fun e he hb=>?_⟩
        have fB:=(lL Ab ho).2 e (by simpa using he) hb
        have:=C0 _ fB
        -- both defaults agree where the place is there
        have kv:e.on<listed.size:=by
          rcases Nat.lt_or_ge e.on listed.size with h'|h'
          · exact h'
          · exfalso
            have :listed.getD i true=true:=by
              simp[Array.getElem?_eq_none (show listed.size<=i by omega)]
            rw[h2] at this;cases this
        simpa[kv] using this
      rw[h] at hr
      cases hr
  induction fuel with
  |zero=>
    intro listed G E s a w kv hlen mQ hP h hr hq
    have hl:left ops listed=[]:=List.eq_nil_of_length_eq_zero oM
    have mH:bO .any ops listed=[]:=by
      cases U8:bO .any ops listed with
      |nil=>rfl
      |cons i L=>
        exfalso
        have :i∈bO .any ops listed:=by rw[U8];simp
        rw[mem_ready] at this
        obtain⟨h0,o,ho,_⟩:=this
        have :i∈left ops listed:=mem_left.2 ⟨(ao.1 ho).1,h0⟩
        rw[hl] at this
        cases this
    rw[hl] at h
    exact⟨mH,hq G E s a w (.refl G) hr h⟩
  |succ fuel ih=>
    intro listed G E s a w kv hlen mQ hP h hr hq
    refine⟨fun mH=>?_,fun i hi=>?_⟩
    · rw[wo listed mH] at h
      exact hq G E s a w (.refl G) hr h
    · obtain⟨h0,o,ho,fG⟩:=mem_ready.1 hi
      have Ac:i<ops.size:=(ao.1 ho).1
      obtain⟨L1,L2,q1,q2,q3⟩:=yx kv Ac h0
      -- what comes before i is done
      have tq:∀(j:Nat)(oj:Oper),ops[j]? =some oj->(∀e∈oj.after.toList,cW .any e=true->listed.getD e.on false=true)->∀l,((bx ops).toList.getD j 0).testBit l=true->listed.getD l false=true:=by
        intro j
        induction j using Nat.strongRecOn with
        |_ j YN=>
          intro oj Ad hj l hl
          obtain⟨d1,d2⟩:=lL Ab Ad
          obtain⟨e,he,hb,h1⟩:=d1 l hl
          have B3:=hj e he hb
          rcases h1 with rfl|h1
          · exact B3
          · have fB:=d2 e he hb
            have YO:e.on<ops.size:=by
              have:=(ao.1 Ad).1
              omega
            have C1:ops[e.on]? =some ops[e.on]:=by simp[YO]
            refine YN e.on fB _ C1 (mQ e.on _ C1 ?_) l h1
            have :e.on<listed.size:=oM
            simpa[this] using B3
      have wG:∀x∈L1,jb ops ((ops[x]?).getD default) o∧¬(2<=mk x∧2<=mk i)∧¬(mk x=1∧mk i=3):=by
        intro x hx
        obtain⟨YP,Pu⟩:=q3 x hx
        unfold JR at qQ
        rw[aB] at qQ
        have h1:=qQ i (by simpa using Ac)
        rw[aB] at h1
        have h2:=h1 x (by simpa using YP)
        have Xp:ops[x]? =some (ops[x]'oM):=sM
        rw[Xp,ho] at h2
        simp only[cp,aw,Bool.not_eq_true'] at h2
        rcases h2 with h2|⟨⟨h2,h3⟩,h4⟩
        · exfalso
          have:=tq i o ho (fun e he hb=>fG e (by simpa using he) hb) x h2
          have YQ:x<listed.size:=oM
          simp[YQ] at this Pu
          rw[Pu] at this;cases this
        · refine⟨by rw[Xp];exact h2,fun hc=>?_,fun hc=>?_⟩
          · simp[hc.1,hc.2] at h3
          · simp[hc.1,hc.2] at h4
      have fO:∀{G':Gh}{E':Env}{s':AS}{a':Act}{w':World},G.le G'->(oz ((L1++L2).map (kA ops mk))=true->pO F s')->uT P Γ N ops F ((L1++L2).map (kA ops mk)) K E' s'->Rel Γ N G' E' s' a' w'->wpAnyIn (yq rd) 0 P .any ops Q fuel (listed.setIfInBounds i true) a' w':=by
        intro G' E' s' a' w' hle hP' hA xo
        refine ih (listed.setIfInBounds i true) (by simpa using kv) ?_ ?_ (by rw[q2];exact hP') ?_ xo (fun ya mW mb CX z8 k1 k2 k3=>hq ya mW mb CX z8 (hle.trans k1) k2 k3)
        · rw[q2]
          rw[q1] at hlen
          simp at hlen⊢
          omega
        · intro j oj Ad hj e he hb
          by_cases Hk:j=i
          · subst Hk
            rw[ho] at Ad;cases Ad
            exact getD_set_true (fG e (by simpa using he) hb)
          · rw[getD_set_ne true (Ne.symm Hk)] at hj
            exact getD_set_true (mQ j oj Ad hj e he hb)
        · rw[q2];exact hA
      rw[q1] at h hP
      simp only[List.map_append,aG] at h fO hP
      have lJ:kA ops mk i=(o,mk i):=by simp[kA,ho]
      rw[lJ] at h hP
      by_cases hf:mk i<=1
      · have nG:∀x∈L1.map (kA ops mk),jb ops x.1 o:=by
          intro x hx
          obtain⟨j,hj,rfl⟩:=bR.1 hx
          exact(wG j hj).1
        obtain⟨hd,v,hv⟩:=Df hf _ nG hP h hr
        have h1:=qT hf _ nG hv h
        have hX:uT P Γ N ops F ((o,mk i)::(L1.map (kA ops mk)++L2.map (kA ops mk))) K E s:=by
          simp only[uT,if_pos hf,hv]
          exact⟨hd,h1⟩
        have h2:=RF (fun hn=>hP (by
          rw[oI,tr] at hn
          rw[tr,oI]
          simp only[cp] at hn⊢
          rcases hn with hn|hn|hn
          · exact .inr (.inl hn)
          · exact .inl hn
          · exact .inr (.inr hn))) hX
        exact l9 (L:=[]) (K:=fun E s=>(oz (L1.map (kA ops mk)++L2.map (kA ops mk))=true->pO F s)∧uT P Γ N ops F (L1.map (kA ops mk)++L2.map (kA ops mk)) K E s) ho h2 hr (fun G' E' s' a' w' k1 k2 k3=>fO k1 k3.1 k3.2 k2)
      · have nG:∀x∈L1.map (kA ops mk),jb ops x.1 o∧x.2<=1∧(mk i≠2->x.2≠1):=by
          intro x hx
          obtain⟨j,hj,rfl⟩:=bR.1 hx
          obtain⟨p1,p2,p3⟩:=wG j hj
          have LN:=JS i
          refine⟨p1,?_,fun h2 h3=>?_⟩
          · show mk j<=1
            omega
          · have h3:mk j=1:=h3
            omega
        have h2:=wL hf _ nG h
        exact l9 (L:=[]) (K:=fun E s=>((mk i=2∨oz (L1.map (kA ops mk)++L2.map (kA ops mk))=true)->pO F s)∧uT P Γ N ops F (L1.map (kA ops mk)++L2.map (kA ops mk)) K E s) ho h2 hr (fun G' E' s' a' w' k1 k2 k3=>fO k1 (fun hn=>k3.1 (.inr hn)) k3.2 k2)
theorem An{F:Fz}:∀(L:List (Oper×Nat)){K:Env->AS->Prop}{E:Env}{s:AS},uT P Γ N ops F L K E s->uT P Γ N ops F L (fun E' s'=>K E' s'∧∀i,i∉fT (L.map (·.1))->E' i=E i) E s
  |[],K,E,s,h=>⟨h,fun _ _=>rfl⟩
  |(o,m)::L,K,E,s,h=>by
    have rI:∀i,i∉fT (((o,m)::L).map (·.1))->i∉fT (L.map (·.1))∧o.dst≠some i:=by
      intro i hi;simp only[fT,aG,List.filterMap_cons] at hi;refine⟨fun hm=>hi ?_,fun e=>hi (by simp[e])⟩;simp only[fT] at hm;split
      · exact hm
      · exact aQ _ hm
    simp only[uT] at h⊢;split at h
    · rename_i he;rw[if_pos he];refine⟨h.1,?_⟩;have h:=h.2;split at h
      · refine yE L (fun mW mb C2=>⟨C2.1,fun i hi=>?_⟩) (An L h);obtain⟨m1,m2⟩:=rI i hi;rw[C2.2 i m1,fR m2]
      · exact h
    · rename_i he;rw[if_neg he];refine gi _ (fun E' s' hE=>⟨hE.1.1,?_⟩) (gu h);refine yE L (fun mW mb C2=>⟨C2.1,fun i hi=>?_⟩) (An L hE.1.2);obtain⟨m1,m2⟩:=rI i hi;rw[C2.2 i m1,hE.2 i m2]
theorem B5{E:Env}{Q:Exit->Env->AS->Prop}(hm:P.follows .mixedOrders=true)(F:Fz)(mk:Nat->Nat)(JS:∀i,mk i<=3){id:Nat}(mR:yF ops mk=true)(hP:pO F s)
    (h:uT P Γ N ops F ((aq ops.size).map (kA ops mk)) (fun E' s'=>Q .normal E' s') E s):fY P Γ N (.region id ops true) Q E s:=by
  intro G a w hr;refine wpIn_region_any hm ?_;have Bn:left ops (cb ops.size false)=aq ops.size:=by
    unfold left;rw[List.filter_eq_self];intro i hi;have :i<ops.size:=(by simpa using hi);simp[this]
  have xo:Rel Γ N G E s a w.drew:=⟨hr.st.drew,hr.size,hr.tmps,hr.defers⟩;refine Hz JS mR ops.size (cb ops.size false) sM (by rw[Bn];simp) ?_ (fun _=>hP) (by rw[Bn];exact An _ h) xo ?_
  · intro i o ho hl;have :i<ops.size:=(ao.1 ho).1;simp[this] at hl
  · intro G' E' s' a' w' h1 h2 h3;refine⟨G',E',s',h1,h2,h3.1,fun i hi=>h3.2 i fun hm=>hi ?_⟩;have :((aq ops.size).map (kA ops mk)).map (·.1)=ops.toList:=by
      apply List.ext_getElem?;intro j;simp only[List.getElem?_map];by_cases hj:j<ops.size
      · simp[hj,kA]
      · simp[hj]
    have JC:i∈fT (((aq ops.size).map (kA ops mk)).map (·.1)):=hm;rw[this] at JC;exact JC
end
end Go.AM
namespace Go.AM
open Go Go.RowKit
variable{P:Program}{Γ:Nat->List AV}{s:AS}
section
variable{N:Nat}{ops:Array Oper}
theorem PF(fl ld lx:List Nat)(i:Nat):lq fl ld lx i<=3:=by
  unfold lq;split
  · omega
  · split
    · omega
    · split <;>omega
def JT(P:Program)(Γ:Nat->List AV)(N:Nat)(ops:Array Oper)(F:Fz)(fl ld lx:List Nat):Nat->List Oper->(Env->AS->Prop)->Env->AS->Prop
  |_,[],K,E,s=>K E s
  |k,o::rest,K,E,s=>
    if ld.contains k=true then(∀d,o.dst=some d->d<N)∧match gY ops o E (gS P F (ef Γ E) o.op) with |some v=>JT P Γ N ops F fl ld lx (k+1) rest K (eR E o.dst v) s|none=>False
    else if fl.contains k=true then AY P Γ N ops [o] (fun E' s'=>pO F s'∧JT P Γ N ops F fl ld lx (k+1) rest K E' s') E s
    else if lx.contains k=true then AY P Γ N ops [o] (fun E' s'=>((ld.any fun i=>decide (k<i))=true->pO F s')∧JT P Γ N ops F fl ld lx (k+1) rest K E' s') E s
    else(∀d,o.dst=some d->d<N)∧match gY ops o E (gG P (ef Γ E) o.op) with |some v=>JT P Γ N ops F fl ld lx (k+1) rest K (eR E o.dst v) s|none=>False
theorem nN{F:Fz}{fl ld lx:List Nat}:∀(L:List Oper)(k:Nat){K:Env->AS->Prop}{E:Env}{s:AS},(∀j o,L[j]? =some o->ops[k+j]? =some o)->JT P Γ N ops F fl ld lx k L K E s->
    uT P Γ N ops F ((List.range' k L.length).map (kA ops (lq fl ld lx))) K E s
  |[],k,K,E,s,_,h=>h
  |o::L,k,K,E,s,hL,h=>by
    have ho:ops[k]? =some o:=(by simpa using hL 0 o sM);have Xv:∀j o',L[j]? =some o'->ops[k+1+j]? =some o':=fun j o' hj=>by
      have:=hL (j+1) o' (by simpa using hj);rwa [show k+1+j=k+(j+1) from oM]
    have lJ:kA ops (lq fl ld lx) k=(o,lq fl ld lx k):=(by simp[kA,ho]);rw[List.length_cons,List.range'_succ,aG,lJ];simp only[JT] at h;split at h
    · rename_i hl;have hm:lq fl ld lx k=1:=(by unfold lq;rw[if_pos hl]);rw[hm];simp only[uT,if_pos (Nat.le_refl 1)];refine⟨h.1,?_⟩;have h:=h.2;unfold wJ;rw[if_pos rfl];split at h
      · rename_i v hv;first |(simp only[hv];exact nN L (k+1) Xv h)|(rw[hv];exact nN L (k+1) Xv h)|exact nN L (k+1) Xv h
      · exact h.elim
    · rename_i hl;split at h
      · rename_i hf;have hm:lq fl ld lx k=2:=(by unfold lq;rw[if_neg hl,if_pos hf]);rw[hm];simp only[uT];rw[if_neg oM];rw[ay] at h;exact gi _ (fun E' s' hE=>⟨fun _=>hE.1,nN L (k+1) Xv hE.2⟩) h
      · rename_i hf;split at h
        · rename_i hx;have hm:lq fl ld lx k=3:=(by unfold lq;rw[if_neg hl,if_neg hf,if_pos hx]);rw[hm];simp only[uT];rw[if_neg oM];rw[ay] at h;refine gi _ (fun E' s' hE=>⟨fun hn=>hE.1 ?_,nN L (k+1) Xv hE.2⟩) h;rcases hn with hn|hn
          · omega
          · unfold oz at hn;rw[List.any_eq_true] at hn⊢;obtain⟨x,hx1,hx2⟩:=hn;obtain⟨i,hi,rfl⟩:=bR.1 hx1;have hik:k+1<=i:=by
              rw[List.mem_range'] at hi;obtain⟨j,_,rfl⟩:=hi;omega
            have UH:lq fl ld lx i=1:=(by simpa[kA] using hx2);have hc:ld.contains i=true:=by
              unfold lq at UH;split at UH
              · assumption
              · split at UH
                · omega
                · split at UH<;>omega
            refine⟨i,by simpa using hc,by simp;omega⟩
        · rename_i hx;have hm:lq fl ld lx k=0:=(by unfold lq;rw[if_neg hl,if_neg hf,if_neg hx]);rw[hm];simp only[uT,if_pos (Nat.zero_le 1)];refine⟨h.1,?_⟩;have h:=h.2;unfold wJ;rw[if_neg oM];split at h
          · rename_i v hv;first |(simp only[hv];exact nN L (k+1) Xv h)|(rw[hv];exact nN L (k+1) Xv h)|exact nN L (k+1) Xv h
          · exact h.elim
theorem RG:∃f:Program->(Nat->List AV)->Nat->Array Oper->Fz->List Nat->List Nat->List Nat->Nat->List Oper->(Env->AS->Prop)->Env->AS->Prop,f=JT:=⟨_,rfl⟩
noncomputable def Vm:Program->(Nat->List AV)->Nat->Array Oper->Fz->List Nat->List Nat->List Nat->Nat->List Oper->(Env->AS->Prop)->Env->AS->Prop:=cz RG
theorem axr:Vm=JT:=ct RG
variable{F:Fz}{fl ld lx:List Nat}{k:Nat}{K:Env->AS->Prop}{E:Env}{o:Oper}{rest:List Oper}
theorem eN:Vm P Γ N ops F fl ld lx k [] K E s=K E s:=by rw[axr];rfl
theorem eD:Vm P Γ N ops F fl ld lx k (o::rest) K E s=
    if ld.contains k=true then(∀d,o.dst=some d->d<N)∧match gY ops o E (gS P F (ef Γ E) o.op) with |some v=>Vm P Γ N ops F fl ld lx (k+1) rest K (eR E o.dst v) s|none=>False
    else if fl.contains k=true then AY P Γ N ops [o] (fun E' s'=>pO F s'∧Vm P Γ N ops F fl ld lx (k+1) rest K E' s') E s
    else if lx.contains k=true then AY P Γ N ops [o] (fun E' s'=>((ld.any fun i=>decide (k<i))=true->pO F s')∧Vm P Γ N ops F fl ld lx (k+1) rest K E' s') E s
    else(∀d,o.dst=some d->d<N)∧match gY ops o E (gG P (ef Γ E) o.op) with |some v=>Vm P Γ N ops F fl ld lx (k+1) rest K (eR E o.dst v) s|none=>False:=by rw[axr];rfl
theorem ej(o:Nat):Bs [] o=none:=rfl
theorem eg(a:Nat)(cs:List AV)(F:Fz)(o:Nat):Bs ((a,cs)::F) o=if a=o then some cs else Bs F o:=by
  unfold Bs;rw[List.find?_cons];by_cases h:a=o
  · subst h;simp
  · rw[if_neg h,show(a==o)=false from by simpa using h]
theorem ec:pO [] s=True:=by simp[pO]
theorem dZ(a:Nat)(cs:List AV)(F:Fz):pO ((a,cs)::F) s=(s.dD a=some cs∧pO F s):=by simp[pO]
end
section
variable{N:Nat}{E:Env}{Q:Exit->Env->AS->Prop}
theorem gl(hm:P.follows .mixedOrders=true)(F:Fz)(fl ld lx:List Nat){id:Nat}{L:List Oper}(mR:yF L.toArray (lq fl ld lx)=true)(hP:pO F s)
    (h:∀K:Env->AS->Prop,(∀E s,Q .normal E s->K E s)->Vm P Γ N L.toArray F fl ld lx 0 L K E s):fY P Γ N (.region id L.toArray true) Q E s:=by
  refine B5 hm F (lq fl ld lx) (PF fl ld lx) mR hP ?_;have h1:=h _ fun _ _ h=>h;rw[axr] at h1;have h2:=nN (ops:=L.toArray) L 0 (fun j o hj=>by simpa using hj) h1;simpa[List.range_eq_range'] using h2
theorem iT(hm:P.follows .mixedOrders=true)(F:Fz)(fl ld lx:List Nat){id:Nat}{L:List Oper}{y:Code}(mR:yF L.toArray (lq fl ld lx)=true)(hP:pO F s)
    (h:∀K:Env->AS->Prop,(∀E s,fY P Γ N y Q E s->K E s)->Vm P Γ N L.toArray F fl ld lx 0 L K E s):fY P Γ N (.seq (.region id L.toArray true) y) Q E s:=
  oX (gl hm F fl ld lx mR hP fun K hK=>h K hK)
end
end Go.AM
namespace Go.AM
open Go Go.RowKit
variable{rd:Option Nat}{P:Program}{Γ:Nat->List AV}{G:Gh}{s:AS}{w:World}
theorem eo.ext{w':World}(h:eo Γ G s w)(hb:Below w.heap.size w w'):eo Γ G s w' where
  ro b j u hu:=by
    have:=h.ro b j u hu;rw[hb.cell (World.block_lt_of_cell? w _ this)];exact this
  dD o cs hc:=by
    obtain⟨b,vs,h1,h2,h3,h4⟩:=h.dD o cs hc;have fB:=h.ib o b h1;exact⟨b,vs,h1,h2,h3,fun j u hu=>⟨by rw[hb.cell (p:=⟨b,j,none⟩) fB];exact(h4 j u hu).1,by rw[hb.frozen (p:=⟨b,j,none⟩) fB];exact(h4 j u hu).2.1,(h4 j u hu).2.2⟩⟩
  ib o b RH:=Nat.lt_of_lt_of_le (h.ib o b RH) hb.size;inj:=h.inj;own t e he:=by
    obtain⟨b,st,en,h1,h2,h3,h4,h5,h6⟩:=h.own t e he;refine⟨b,st,en,h1,h2,h3,fun j hj nH=>?_,h5,Nat.lt_of_lt_of_le h6 hb.size⟩;obtain⟨⟨u,hu⟩,h7,h8⟩:=h4 j hj nH;exact⟨⟨u,by rw[hb.cell (p:=⟨b,j,none⟩) h6];exact hu⟩,by rw[hb.frozen (p:=⟨b,j,none⟩) h6];exact h7,h8⟩
  gM:=h.gM;fL:=h.fL;gF:=h.gF;fW:=h.fW;below:=h.below.trans (hb.mono h.base);others:=h.others.trans fun k o hk _=>(hb.block k (ao.1 hk).1).trans hk;base:=Nat.le_trans h.base hb.size;nE:=h.nE;soft b c T lo hi hB hh:=by
    rw[hb.block b (h.xfj hB)] at hh;exact h.soft b c T lo hi hB hh
def View(Γ:Nat->List AV)(s:AS)(a b:AV):Prop:=∀G w u,eo Γ G s w->dQ G a u->dQ (G0 w) b u
def xh5(Γ:Nat->List AV)(s:AS)(as bs:List AV):Prop:=∀G w us,eo Γ G s w->dP G as us->dP (G0 w) bs us
theorem eo.cut{o:Nat}{ds r:List AV}(h:eo Γ G (s.set o (ds++r)) w):eo Γ G (s.set o ds) w where
  ro:=h.ro
  dD o' cs hc:=by
    by_cases e:o'=o
    · subst e;simp[AS.set] at hc;subst hc;obtain⟨b,vs,h1,h2,h3,h4⟩:=h.dD o' (ds++r) (by simp[AS.set]);refine⟨b,vs.take ds.length,h1,?_,h3,fun j u hj=>h4 j u ?_⟩
      · have:=h2.take ds.length;rwa [List.take_left] at this
      · rw[List.getElem?_take] at hj;split at hj
        · exact hj
        · cases hj
    · exact h.dD o' cs (by simpa[AS.set,dY,e] using hc)
  ib:=h.ib;inj:=h.inj;own:=h.own;gM:=h.gM;fL:=h.fL;gF:=h.gF;fW:=h.fW;below:=h.below;others:=h.others;base:=h.base;nE:=h.nE;soft:=h.soft
theorem Ao{y:AV}{u v:Value}{m:Nat}{ds:List AV}{T xT e:TypeId}{z:List AV}(hT:P.underlying T=some (.slice e))(hx:pY P (some xT)=true)(he:u6 P e z)
    (kF:nL (P.cellsOf e) s y=some (m,ds)) (hm:m≠0) (h1:m*P.bytesOf e<=2^46) (h2:m<=2^46) (sY:dQ G (.sl (P.cellsOf e) 0 [] .new) u) (B2:dQ G y v) (hs:eo Γ G s w) (ty:TypeId):
    ∃G' z w' o cap,(Builtin.append_ #[T,xT] ty #[u,v]).run P w=.ok z w'∧G.le G'∧s.dD o=none∧m<=cap∧eo Γ G' (s.set o ds) w'∧dQ G' (.jd o 0 (P.cellsOf e) m cap) z:=by
  obtain⟨us,hv,hlen,oD,lI⟩:=xl (P:=P) kF B2 hs;simp only[dQ] at sY;rcases sY with⟨b,off,cap,vs,rfl,hl,Hf,LH,vN,uY⟩|⟨_,_,a,cap,rfl,CT⟩|⟨_,_,hn,_⟩
  · simp only[ke] at uY;obtain⟨rfl,_⟩:=uY;obtain⟨qc,rest,Ct,EX,qK⟩:=nM (P:=P) (w:=w) oD hT hx he (base:=some ⟨b,off,none⟩) (n:=0) (cap:=0) (olds:=[]) (news:=us)
      (fun w' _=>run_firstCells_some w' _ _ _ _ _ [] sM sM) lI oM (by simpa using h1) (by simpa using h2) ty
    simp only[Nat.zero_add,aP] at Ct EX qK;obtain⟨o,k1,k2,k3,k4⟩:=hs.drew.newObj (cs:=ds++rest.map .v) (vs:=us++rest) (hv.append (dP.Jo rest)) e;refine⟨_,_,_,o,qc,qK,k2,k1,Ct,k3.cut,?_⟩;simp only[dQ];exact⟨_,k4,rfl,Ct⟩
  · rcases CT with h|h|⟨h,_⟩<;>cases h
  · cases hn
theorem jn{N:Nat}{ops:Array Oper}{Q:Exit->Act->World->Prop}{K:Env->AS->Prop}:∀(L:List Oper)(I J:List Nat){G:Gh}{E:Env}{s:AS}{a:Act}{w:World},I.map (ops[·]?)=L.map some->AX P Γ N ops L K E s->Rel Γ N G E s a w->
    (∀G' E' s' a' w',G.le G'->Rel Γ N G' E' s' a' w'->K E' s'->wpOpsIn (yq rd) 0 P ops Q J a' w')->wpOpsIn (yq rd) 0 P ops Q (I++J) a w
  |[],I,J,G,E,s,a,w,hI,h,hr,hq=>by
    have :I=[]:=(by simpa using hI);subst this;exact hq G E s a w (.refl G) hr h
  |o::L,I,J,G,E,s,a,w,hI,h,hr,hq=>by
    cases I with
    |nil=>simp at hI
    |cons i I=>
      simp only[aG,cM] at hI;rw[bt,wpOpsIn_cons];exact l9 hI.1 h hr fun G' E' s' a' w' h1 h2 h3=>jn L I J hI.2 h3 h2 fun ya mW mb CX z8 k1 k2 k3=>hq ya mW mb CX z8 (h1.trans k1) k2 k3
theorem Fi{N:Nat}{E:Env}{Q:Exit->Env->AS->Prop}{id:Nat}{o1 o2 o3 o4:Oper}{x y:Operand}{T xT e:TypeId}{z:List AV}{d:Tmp}{code:Code}
    (ho:o3.op=.call {callee:=.builtin .append,args:=#[x,y],argTypes:=#[T,xT]}) (hg:o3.guard=none) (hd:o3.dst=some d) (hN:d<N)
    (hT:P.underlying T=some (.slice e)) (hx:pY P (some xT)=true) (hz:eO P e=some z) (hc:P.cellsOf e≠0) (yo:z.length=P.cellsOf e)
    (h:AY P Γ N #[o1,o2,o3,o4] [o1,o2] (fun E1 s1=>ef Γ E1 x=.sl (P.cellsOf e) 0 [] .new∧∃m ds,nL (P.cellsOf e) s1 (ef Γ E1 y)=some (m,ds)∧m≠0∧m*P.bytesOf e<=2^46∧m<=2^46∧
      ∀ob cap,s1.dD ob=none->m<=cap->AY P Γ N #[o1,o2,o3,o4] [o4] (fun E' s'=>fY P Γ N code Q E' s') (dY E1 d (.jd ob 0 (P.cellsOf e) m cap)) (s1.set ob ds)) E s):
    fY P Γ N (.seq (.region id #[o1,o2,o3,o4] false) code) Q E s:=by
  rw[ay] at h;refine oX ?_;intro G a w hr;refine wpIn_region ?_;have YX:aq (#[o1,o2,o3,o4]:Array Oper).size=[0,1]++[2,3]:=(by simp;decide);rw[YX];refine jn [o1,o2] [0,1] [2,3] sM (ja _ h) hr ?_;rintro G1 E1 s1 a1 w1 mC wM ⟨⟨hxe,m,ds,kF,hm,Cw,LI,hk⟩,HA⟩;rw[wpOpsIn_cons];have lJ:(#[o1,o2,o3,o4]:Array Oper)[2]? =some o3:=sM;simp only[wpOpIn,lJ];rw[if_pos (jq hg)];have sY:=wM.eval x;rw[hxe] at sY;obtain⟨G2,z2,w2,ob,cap,q1,q2,q3,q4,q5,q6⟩:=Ao hT hx ⟨hz,hc,yo⟩ kF hm Cw LI sY (wM.eval y) wM.st o3.type;refine Oper.sF (K:=fun r s'=>r=.jd ob 0 (P.cellsOf e) m cap∧s'=s1.set ob ds) wM (fun d' RI=>by rw[hd] at RI;cases RI;exact hN) ?_ ?_
  · rw[ik ho];simp only[builtin];exact iQ ⟨G2,z2,w2,_,_,by simpa using q1,q2,q5,q6,rfl,rfl⟩
  · rintro G3 r s3 a3 w3 Xw wN ⟨rfl,rfl⟩;rw[hd] at wN;have hl:=ja _ (hk ob cap q3 q4);refine qN [o4] [3] sM hl wN ?_;rintro G4 E4 s4 a4 w4 hG4 I8 ⟨QX,RJ⟩;refine⟨G4,E4,s4,mC.trans (Xw.trans hG4),I8,QX,?_⟩;intro i hi;have mem:∀L:List Oper,i∈fT L↔∃o∈L,o.dst=some i:=(fun L=>by simp[fT,cw]);have et:¬∃o∈[o1,o2,o3,o4],o.dst=some i:=fun hm=>hi ((mem [o1,o2,o3,o4]).2 hm);have h3:i∉fT [o4]:=fun hm=>et (by obtain⟨o,k1,k2⟩:=(mem _).1 hm;exact⟨o,by simp at k1;simp[k1],k2⟩);have h1:i∉fT [o1,o2]:=fun hm=>et (by obtain⟨o,k1,k2⟩:=(mem _).1 hm;exact⟨o,by simp at k1;rcases k1 with k1|k1<;>simp[k1],k2⟩);have h2:i≠d:=fun e=>et ⟨o3,sM,by rw[e];exact hd⟩;rw[RJ i h3];simp only[eR,dY,if_neg h2];exact HA i h1
end Go.AM
namespace Go.AM
open Go Go.RowKit
theorem dS.anyS{P:Program}{Γ:Nat->List AV}{f:FuncId}{post:List AV}{sz n:Nat}{cs:List AV}{s:AS}{Q:AV->AS->Prop}(h0:n=0->cs=[]->dS P Γ f (eW::post) s Q)(h1:dS P Γ f (.sl sz n cs .no::post) s Q):
    dS P Γ f (.sl sz n cs .any::post) s Q:=by
  intro G w vs hs hv;simp only[dP] at hv;obtain⟨u,us,rfl,k1,k2⟩:=hv;rcases dQ.any k1 with⟨h3,h5,h4⟩|h3
  · exact h0 h3 h5 G w _ hs (by simp only[dP];exact⟨u,us,rfl,h4,k2⟩)
  · exact h1 G w _ hs (by simp only[dP];exact⟨u,us,rfl,h3,k2⟩)
end Go.AM
