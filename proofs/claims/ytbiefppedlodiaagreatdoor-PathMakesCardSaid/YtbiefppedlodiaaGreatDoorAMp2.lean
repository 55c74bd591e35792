/- An abstract machine for the model and the rules of its walk, each proved sound over the model; no condition. -/
import Derived.Test.YtbiefppedlodiaaGreatDoorAMp1
import Derived.Laws.IdiomCopy
import Derived.IntWalk
import Derived.OrdersIn
import Derived.ControlIn
open Array renaming ext' -> cF, getD_eq_getD_getElem? -> aR
open Bool renaming and_eq_true -> aw, false_eq_true -> ar
open Classical renaming choose -> cz, choose_spec -> ct
open Go.Builtin renaming append_ -> bw, firstCells -> bp, lenOf -> dd, nextslicecap -> cG, zeroCells -> cc
open Go.Fence renaming wide -> bY
open Go.Instr renaming sureAddr -> dq
open Go.IntKind renaming i64 -> c9
open Go.IntWalk renaming i64_in -> cq
open Go.Oper renaming apart_spec -> cx, uponIn -> dG
open Go.Question renaming appendCap -> cv
open Go.Region renaming wanted -> de
open Go.Result renaming andThen_ok -> aM
open Go.Sem renaming run_bind -> bo, run_pure -> bE
open Go.World renaming setCells -> dx
open List renaming cons_append -> bt, eq_nil_of_length_eq_zero -> al, ext_getElem? -> br, getElem?_drop -> cd, getElem?_take -> aF, length_append -> ai, map_congr_left -> bI, map_cons -> aG, mem_cons_of_mem -> aQ, mem_filterMap -> cw, nil_append -> aP, range -> aq, replicate -> ae
open List.cons renaming injEq -> cM
open Nat renaming add_assoc -> cK, add_mul -> cX, le_refl -> ax, lt_or_ge -> ch, mul_le_mul_right -> b9, zero_add -> bf
open Option renaming map_eq_some_iff -> cZ
open Option.some renaming injEq -> aU
set_option linter.unusedSimpArgs false
set_option linter.unusedVariables false
namespace Go.AM
open Go Go.RowKit
variable{P:Program}{Γ:Nat->List AV}{G:Gh}{s:AS}{w:World}
theorem pg{r:AV}{x:Sem Value}(h:∃z,x.run P w=.ok z w∧dQ G r z)(hs:eo Γ G s w):
    Js Γ G s r ((do pure (.value (<-x)):Sem Next).run P w):=by
  obtain⟨z,h1,h2⟩:=h;exact .same hs (by simp[h1]) h2
theorem F9{r:AV}{x:Sem Value}(h:∃G' z w',x.run P w=.ok z w'∧G.le G'∧eo Γ G' s w'∧dQ G' r z):
    Js Γ G s r ((do pure (.value (<-x)):Sem Next).run P w):=by
  obtain⟨G',z,w',h1,h2,h3,h4⟩:=h;exact⟨G',z,w',by simp[h1],h2,h3,h4⟩
theorem pJ.of_map{ρ:Operand->AV}{ρ':Operand->Value}(h:∀x,dQ G (ρ x) (ρ' x)):∀(o:Option Operand),pJ G (o.map ρ) (o.map ρ')
  |.none=>.none
  |.some x=>.some (h x)
theorem dP.of_map{ρ:Operand->AV}{ρ':Operand->Value}(h:∀x,dQ G (ρ x) (ρ' x)):∀(l:List Operand),dP G (l.map ρ) (l.map ρ')
  |[]=>by simp[dP]
  |x::l=>by simp only[aG,dP];exact⟨_,_,rfl,h x,dP.of_map h l⟩
theorem Jv{S:TypeId}{x:AV}{u:Value}{i off:Nat}{T:TypeId}{r:AV}(hf:fk P S i=some (off,T))(hz:P.cellsOf T≠0)
    (h:(match x with |.ptr o a=>some (.ptr o (a+off))|.ij cs=>some (.ij (cs.drop off))|_=>none)=some r) (hx:dQ G x u):
    ∃z,(Instr.fieldAt S u i).run P w=.ok z w∧dQ G r z:=by
  unfold fk at hf;split at hf
  · rename_i fs hu;simp only[cZ] at hf;obtain⟨f,hf1,hf2⟩:=hf;cases hf2;split at h
    · cases h;simp only[dQ] at hx;obtain⟨b,h1,rfl⟩:=hx;refine⟨_,?_,by simp only[dQ];exact⟨b,h1,rfl⟩⟩;simp[Instr.fieldAt,run_underlying hu,hf1,dq,fieldPlace,eu hz,hz,gI]
    · cases h;simp only[dQ] at hx;obtain⟨b,a,vs,rfl,h1,h2⟩:=hx;refine⟨_,?_,by simp only[dQ];exact⟨b,_,_,rfl,h1.drop _,h2.drop _⟩⟩;simp[Instr.fieldAt,run_underlying hu,hf1,dq,fieldPlace,eu hz,hz,gI]
    · cases h
  · cases hf
theorem L9{S:TypeId}{cs:List AV}{u:Value}{i off:Nat}{T:TypeId}{r:AV}(hf:fk P S i=some (off,T))(hz:P.cellsOf T≠0)
    (h:apart P T cs off=some r) (hx:dQ G (.agg cs) u):
    ∃z,(Instr.field S u i).run P w=.ok z w∧dQ G r z:=by
  unfold fk at hf;split at hf
  · rename_i fs hu;simp only[cZ] at hf;obtain⟨f,hf1,hf2⟩:=hf;cases hf2;simp only[dQ] at hx;obtain⟨vs,rfl,hv⟩:=hx;obtain⟨z,h1,h2⟩:=F6 (w:=w) h hz hv;exact⟨z,by simp[Instr.field,run_underlying hu,hf1,asAgg,h1],h2⟩
  · cases hf
theorem Hh{x:AV}{u:Value}{i:Nat}{r:AV}(h:(match x with |.ka cs=>cs[i]? |_=>none)=some r)(hx:dQ G x u):
    ∃z,(Instr.extract u i).run P w=.ok z w∧dQ G r z:=by
  split at h
  · simp only[dQ] at hx;obtain⟨vs,rfl,hv⟩:=hx;obtain⟨z,h1,h2⟩:=hv.get i r h;exact⟨z,by simp[Instr.extract,h1],h2⟩
  · cases h
set_option maxHeartbeats 2000000 in
theorem Ma(o:Oper){ρ:Operand->AV}{ρ':Operand->Value}{r:AV}(h:gG P ρ o.op=some r)(hρ:∀x,dQ G (ρ x) (ρ' x))(hs:eo Γ G s w):
    Js Γ G s r ((execOp ρ' o).run P w):=by
  obtain⟨dst,op,type,pos,after,guard⟩:=o;cases op<;>simp only[gG] at h<;>try(cases h;done)
  case move x=>cases h;exact .same hs (by simp[execOp]) (hρ x)
  case assign x=>cases h;exact .same hs (by simp[execOp]) (hρ x)
  case pick c a b=>
    have hc:=hρ c;split at h
    · rename_i t ht;rw[ht] at hc;simp only[dQ] at hc;cases h;refine .same hs (v:=if t=true then ρ' a else ρ' b) (by simp[execOp,hc,asBool]) ?_;split
      · exact hρ a
      · exact hρ b
    · cases h
  case build T parts=>
    exact pg (run_build (parts:=parts.toList.map fun p=>(p.1,ρ p.2)) (qs:=parts.map fun p=>(p.1,ρ' p.2)) h (by simpa using kU.of_map hρ parts.toList)) hs
  case buildSlice T len parts=>
    exact F9 (B1 hs (parts:=parts.toList.map fun p=>(p.1,ρ p.2)) (qs:=parts.map fun p=>(p.1,ρ' p.2)) h (by simpa using kU.of_map hρ parts.toList))
  case load T x=>
    have hx:=hρ x;split at h
    · rename_i cs hc;rw[hc] at hx;simp only[dQ] at hx;obtain⟨b,off,vs,hu,hv,vN⟩:=hx;split at h
      · cases h
      · rename_i hz;obtain⟨z,h1,h2⟩:=tc h hz hv (hs.xfl vN);exact .same hs (v:=z) (by simp only[execOp,hu,Instr.loadAt,dq,bo,bE,aM,h1]) h2
    · cases h
  case nilCheck x=>
    have hx:=hρ x;split at h
    · rename_i o off hc;rw[hc] at hx;cases h;have UG:=hx;simp only[dQ] at hx;obtain⟨b,_,hu⟩:=hx;exact .same hs (v:=ρ' x) (by simp[execOp,hu]) UG
    · rename_i cs hc;rw[hc] at hx;cases h;have UG:=hx;simp only[dQ] at hx;obtain⟨b,_,_,hu,_⟩:=hx;exact .same hs (v:=ρ' x) (by simp[execOp,hu]) UG
    · rename_i f cs hc;rw[hc] at hx;cases h;have UG:=hx;simp only[dQ] at hx;obtain⟨b,hu,_⟩:=hx;exact .same hs (v:=ρ' x) (by simp[execOp,hu]) UG
    · rename_i f a b hc;rw[hc] at hx;cases h;have UG:=hx;simp only[dQ] at hx;exact .same hs (v:=ρ' x) (by simp[execOp,hx]) UG
    · cases h
  case binOp op T x y yT=>
    obtain⟨h1,z,h2,h3⟩:=Rb (w:=w) x y h (hρ x) (hρ y);exact .same hs (v:=z) (by simp[execOp,h1,h2]) h3
  case unOp op T x=>exact pg (U1 h (hρ x)) hs
  case convert src dst x=>exact F9 (Pg h (hρ x) hs)
  case makeFunc fn first captured=>
    cases fn<;>simp only at h<;>try(cases h;done)
    rename_i f;split at h
    · rename_i hf;cases h;have hf':first = #[]:=by simpa using hf
      subst hf';refine .same hs (v:=.func (.func f) #[] (captured.map ρ')) (by simp[execOp,Instr.makeFunc]) ?_;simp only[dQ];exact⟨captured.toList.map ρ',by congr 1;apply cF;simp,dP.of_map hρ _⟩
    · cases h
  case slice T x lo hi mx=>exact pg (L8 h (hρ x) (.of_map hρ lo) (.of_map hρ hi) (.of_map hρ mx)) hs
  case fieldAddr S x i=>
    split at h
    · rename_i off T hf;split at h
      · cases h
      · rename_i hz;exact pg (Jv hf hz h (hρ x)) hs
    · cases h
  case field S x i=>
    split at h
    · rename_i off T cs hf hc;split at h
      · cases h
      · rename_i hz;have hx:=hρ x;rw[hc] at hx;exact pg (L9 hf hz h hx) hs
    · cases h
  case indexAddr T x i=>exact pg (CP h (hρ x) (hρ i)) hs
  case index T x i=>exact pg (L7 h (hρ x) (hρ i)) hs
  case extract t i=>exact pg (Hh h (hρ t)) hs
  case call c=>
    obtain⟨callee,args,argTypes⟩:=c;cases callee<;>simp only at h<;>try(cases h;done)
    rename_i b;obtain⟨z,h1,h2⟩:=Hg (w:=w) (T:=type) (consts:=args.map fun |.const _=>true|_=>false) h (dP.of_map hρ args.toList);refine .same hs (v:=z) ?_ h2;have e:(args.toList.map ρ').toArray=args.map ρ':=(by apply cF;simp);rw[e] at h1;simp only[execOp,resolve,bo,bE,aM,invoke];exact h1
end Go.AM
namespace Go.AM
open Go Go.RowKit
variable{P:Program}{Γ:Nat->List AV}{G:Gh}{s:AS}{w:World}
theorem sj{K:Nat->Prop}{b:Nat}:∀(us:List Value)(st:Nat)(w:World),O6 K w->O6 K (w.setCells b st us)
  |[],_,_,h=>h
  |u::us,st,w,h=>by rw[dx];exact sj us _ _ (yh h)
theorem eo.U4(h:eo Γ G s w){b st:Nat}{us:List Value}(hB:G.B<=b)(hr:∀j,st<=j->j<st+us.length->G.ro b j=none)(ho:∀o,G.obj o≠some b)
    (ht:∀t e Cr Cs,s.own t=some e->G.tok t e≠some (b,Cr,Cs)):eo Γ G s (w.setCells b st us):=by
  have eU:∀b' j,(b'≠b∨j<st∨st+us.length<=j)->(w.setCells b st us).cell? ⟨b',j,none⟩=w.cell? ⟨b',j,none⟩:=by
    intro b' j hd;exact World.cell?_setCells_out b us st w ⟨b',j,none⟩ (fun h1 _=>by simp at h1;simp;omega)
  have kv:∀(us:List Value)(st:Nat)(w:World),(w.setCells b st us).heap.size=w.heap.size:=by
    intro us;induction us with
    |nil=>intro st w;rfl
    |cons u us ih=>intro st w;rw[dx,ih];simp
  have Pl:∀(us:List Value)(st:Nat)(w:World),Below G.B w (w.setCells b st us):=by
    intro us;induction us with
    |nil=>intro st w;exact Below.refl _ _
    |cons u us ih=>intro st w;rw[dx];exact((Below.refl _ _).setCell (p:=⟨b,st,none⟩) hB u).trans (ih _ _)
  constructor;case ro=>
    intro b' j u hu;rw[eU]
    · exact h.ro b' j u hu
    · by_cases e:b'=b
      · subst e;right;rcases ch j st with h1|h1
        · exact .inl h1
        · right;rcases ch j (st+us.length) with h2|h2
          · rw[hr j h1 h2] at hu;cases hu
          · exact h2
      · exact .inl e
  case dD=>
    intro o cs hc;obtain⟨b',vs,h1,h2,h3,h4⟩:=h.dD o cs hc;refine⟨b',vs,h1,h2,h3,fun j u hu=>?_⟩;have ES:b'≠b:=fun e=>ho o (e ▸ h1);rw[eU _ _ (.inl ES),World.frozen?_setCells];exact h4 j u hu
  case ib=>intro o b' hb;rw[kv];exact h.ib o b' hb
  case inj=>exact h.inj
  case own=>
    intro t e he;obtain⟨b',Cr,Cs,h1,h2,h3,h4,h5,h6⟩:=h.own t e he;refine⟨b',Cr,Cs,h1,h2,h3,fun j hj nH=>?_,h5,by rw[kv];exact h6⟩;have ES:b'≠b:=fun e'=>ht t e _ _ he (e' ▸ h1);rw[eU _ _ (.inl ES),World.frozen?_setCells];exact h4 j hj nH
  case gM=>exact h.gM
  case fL=>exact h.fL
  case gF=>exact h.gF
  case fW=>exact h.fW
  case below=>exact h.below.trans (Pl us st w)
  case others=>
    refine h.others.trans ?_;have :∀(us:List Value)(st:Nat)(w:World),iA w (w.setCells b st us):=by
      intro us;induction us with
      |nil=>intro st w;exact iA.refl _
      |cons u us ih=>intro st w;rw[dx];exact(iA.setCell _ _ _).trans (ih _ _)
    exact this us st w
  case base=>rw[kv];exact h.base
  case soft=>
    exact sj us st w h.soft
  case nE=>exact h.nE
theorem eo.Pm(h:eo Γ G s w){b st:Nat}{us:List Value}(hc:∀(j:Nat)(u:Value),us[j]? =some u->w.cell? ⟨b,st+j,none⟩=some u)(hr:∀j,st<=j->j<st+us.length->G.ro b j=none)(ho:∀o,G.obj o≠some b)
    (ht:∀t e Cr Cs,s.own t=some e->G.tok t e≠some (b,Cr,Cs)):G.le (G.kT b st us)∧eo Γ (G.kT b st us) s w:=by
  have hle:G.le (G.kT b st us):=Gh.CI hr;have vN:∀b' j,b'≠b->(G.kT b st us).ro b' j=G.ro b' j:=(fun b' j hb=>by simp[Gh.kT,hb]);refine⟨hle,?_⟩;constructor;case ro=>
    intro b' j u hu;by_cases e:b'=b
    · subst e;simp only[Gh.kT] at hu;split at hu
      · rename_i hj;have:=hc (j-st) u (by simpa using hu);rwa [show st+(j-st)=j from oM] at this
      · exact h.ro _ j u hu
    · rw[vN b' j e] at hu;exact h.ro b' j u hu
  case dD=>
    intro o cs hc;obtain⟨b',vs,h1,h2,h3,h4⟩:=h.dD o cs hc;refine⟨b',vs,h1,dP.mono hle _ _ h2,h3,fun j u hu=>?_⟩;have ES:b'≠b:=fun e=>ho o (e ▸ h1);rw[vN _ _ ES];exact h4 j u hu
  case ib=>exact h.ib
  case inj=>exact h.inj
  case own=>
    intro t e he;obtain⟨b',Cr,Cs,h1,h2,h3,h4,h5,h6⟩:=h.own t e he;refine⟨b',Cr,Cs,h1,h2,h3,fun j hj nH=>?_,h5,h6⟩;have ES:b'≠b:=fun e'=>ht t e _ _ he (e' ▸ h1);rw[vN _ _ ES];exact h4 j hj nH
  case gM=>exact h.gM
  case fL=>exact h.fL
  case gF=>exact h.gF
  case fW=>exact h.fW
  case below=>exact h.below
  case others=>exact h.others
  case base=>exact h.base
  case soft=>exact h.soft
  case nE=>
    intro g;obtain⟨us,h1,h2⟩:=h.nE g;exact⟨us,dP.mono hle _ _ h1,h2.mono hle⟩
theorem eo.fill(h:eo Γ G s w){t g b st en:Nat}{us:List Value}(ht:s.own t=some g)(hk:G.tok t g=some (b,st,en))(hu:st+us.length<=en):
    (∀j,j<us.length->(w.cell? ⟨b,st+j,none⟩).isSome=true)∧(∀j,j<us.length->w.frozen? ⟨b,st+j,none⟩=false)∧
    ∃G',G.le G'∧eo Γ G' (s.eT t (g+1)) (w.setCells b st us)∧mT G' b st us∧G'.tok t (g+1)=some (b,st+us.length,en):=by
  obtain⟨b1,st1,en1,k1,k2,k3,k4,k5,k6⟩:=h.own t g ht
  rw[hk] at k1
  simp only[aU,Prod.mk.injEq] at k1
  obtain⟨rfl,rfl,rfl⟩:=k1
  refine⟨fun j hj=>?_,fun j hj=>(k4 (st+j) oM oM).2.1,?_⟩
  · obtain⟨u,UY⟩:=(k4 (st+j) oM oM).1
    simp[UY]
  · let s1:AS:={s with own:=dY s.own t none}
    have lA:eo Γ G s1 w:=h.mono ⟨fun _ _ h=>h,fun t' e' he=>by
      by_cases e:t'=t
      · subst e;simp[s1] at he
      · simpa[s1,dY,e] using he⟩
    have Re:∀t' e' Cr Cs,s1.own t'=some e'->G.tok t' e'≠some (b,Cr,Cs):=by
      intro t' e' Cr Cs he hc
      by_cases e:t'=t
      · subst e;simp[s1] at he
      · simp[s1,dY,e] at he
        exact e (h.gM t' e' t g b Cr Cs st en he ht hc hk)
    have Xk:∀j,st<=j->j<st+us.length->G.ro b j=none:=fun j h1 h2=>(k4 j h1 oM).2.2
    have h1:=lA.U4 (us:=us) k3 Xk k5 Re
    obtain⟨hle,h2⟩:=h1.Pm (b:=b) (st:=st) (us:=us) (fun j u hj=>by
      have Jw:j<us.length:=by
        rcases ch j us.length with h|h
        · exact h
        · simp[List.getElem?_eq_none h] at hj
      rw[World.cell?_setCells_in b us st w (fun i hi=>by
        obtain⟨u,UY⟩:=(k4 (st+i) oM oM).1
        simp[UY]) j Jw]
      simpa[Jw] using hj) Xk k5 Re
    have hg:=h2.eT (t:=t) (e:=g+1) (b:=b) (st:=st+us.length) (en:=en) (h.fL t g ht _ oM) (fun e' he'=>h.fL t g ht _ oM) oM k3
      (fun j hj nH=>by
        obtain⟨⟨u,q1⟩,q2,q3⟩:=k4 j oM nH
        refine⟨⟨u,?_⟩,by rw[World.frozen?_setCells];exact q2,?_⟩
        · rw[World.cell?_setCells_out b us st w ⟨b,j,none⟩ (fun _ _=>.inr (by simp;omega))];exact q1
        · simp only[Gh.kT];rw[if_neg oM];exact q3)
      k5 (by
        have kv:∀(us:List Value)(st:Nat)(w:World),(w.setCells b st us).heap.size=w.heap.size:=by
          intro us
          induction us with
          |nil=>intro st w;rfl
          |cons u us ih=>intro st w;rw[dx,ih];simp
        rw[kv];exact k6)
      (fun t' e' Cr Cs gP ho hc=>Re t' e' Cr Cs ho hc)
      (fun c T lo hi hc=>sj (K:=Kn G s) us st w h.soft b c T lo hi (.inr ⟨t,g,_,ht,hk⟩) hc)
    refine⟨_,hle.trans hg.1,?_,(mT.added G b st us).mono hg.1,by simp[Gh.nI]⟩
    have heq:s1.eT t (g+1)=s.eT t (g+1):=by
      simp only[AS.eT,s1,AS.mk.injEq,true_and]
      funext i
      simp only[dY]
      split <;>rfl
    rw[<-heq]
    exact hg.2
def nL(sz:Nat)(s:AS):AV->Option (Nat×List AV)
  |.sl Xl m ds _=>if Xl=sz then some (m,ds) else none
  |.v (.slice none 0 _)=>some (0,[])
  |.jd o off Xl m _=>if Xl=sz then(match s.dD o with |some cs=>if off+m*sz<=cs.length then some (m,(cs.drop off).take (m*sz)) else none|none=>none) else none
  |.v (.string b)=>if sz=1 then some (b.size,b.data.toList.map cU) else none
  |_=>none
theorem xl{sz m:Nat}{y:AV}{ds:List AV}{u:Value}(h:nL sz s y=some (m,ds))(hy:dQ G y u)(hs:eo Γ G s w):
    ∃us,dP G ds us∧us.length=m*sz∧(∀w',(dd u).run P w'=.ok m w')∧(∀w',(∀b j,w'.cell? ⟨b,j,none⟩=w.cell? ⟨b,j,none⟩)->(bp sz m u).run P w'=.ok us.toArray w'):=by
  unfold nL at h;split at h
  · split at h
    · rename_i Xl m' ds' sp kv;subst kv;cases h;simp only[dQ] at hy;rcases hy with⟨b,off,cap,vs,rfl,hl,_,hv,vN,_⟩|⟨rfl,rfl,a,cap,rfl,_⟩|⟨rfl,rfl,rfl,rfl⟩;case inr.inr=>exact⟨[],by simp[dP],sM,fun w'=>rfl,fun w' _=>run_firstCells_none w' _ _ _ _⟩
      case inr.inl=>exact⟨[],by simp[dP],sM,fun w'=>rfl,fun w' _=>run_firstCells_some w' _ _ _ _ _ [] sM sM⟩
      have hlen:=hv.length;refine⟨vs,hv,oM,fun w'=>rfl,fun w' YI=>?_⟩;exact run_firstCells_some w' _ _ _ _ _ vs oM (fun j v hj=>by rw[gI,YI];exact hs.ro _ _ _ (vN j v hj))
    · cases h
  · cases h;simp only[dQ] at hy;subst hy;exact⟨[],by simp[dP],sM,fun w'=>rfl,fun w' _=>run_firstCells_none w' _ _ _ _⟩
  · split at h
    · rename_i o off Xl m' cap kv;subst kv;split at h
      · rename_i cs hc;split at h
        · rename_i hle;cases h;simp only[dQ] at hy;obtain⟨b,ho,rfl,_⟩:=hy;obtain⟨b',vs,h1,h2,h3,h4⟩:=hs.dD o cs hc;rw[ho] at h1;cases h1;have hlen:=h2.length;have hv:=(h2.drop off).take (m*Xl);refine⟨_,hv,by simp;omega,fun w'=>rfl,fun w' YI=>?_⟩;refine run_firstCells_some w' _ _ _ _ _ _ (by simp;omega) (fun j v hj=>?_);rw[gI,YI];rw[aF] at hj;split at hj
          · rw[cd] at hj;exact(h4 _ _ hj).1
          · cases hj
        · cases h
      · cases h
    · cases h
  · split at h
    · rename_i b kv;subst kv;cases h;simp only[dQ] at hy;subst hy;refine⟨iH b.data.toList,rN _,by have :b.data.size=b.size:=rfl;simp[iH,this],fun w'=>rfl,fun w' _=>?_⟩;simp only[bp,bE];congr 1;have hb:b.extract 0 b.size=b:=by
        apply ByteArray.ext;simp
      rw[hb];apply cF;simp[iH]
    · cases h
  · cases h
def pY(P:Program)(t:Option TypeId):Bool:=
  match t.bind P.underlying with
  |some (.slice _)|some .string=>true
  |_=>false
theorem te{x:TypeId}(h:pY P (some x)=true):(∃e,P.underlying x=some (.slice e))∨P.underlying x=some .string:=by
  unfold pY at h;simp only[Option.bind_some] at h;cases hu:P.underlying x with
  |none=>simp[hu] at h
  |some d=>cases d<;>simp[hu] at h<;>first |exact .inl ⟨_,rfl⟩|exact .inr rfl
def u6(P:Program)(e:TypeId)(z:List AV):Prop:=eO P e=some z∧P.cellsOf e≠0∧z.length=P.cellsOf e
theorem nM{m:Nat}{u:Value}(kF:∀w',(dd u).run P w'=.ok m w'){T xT e:TypeId}(hT:P.underlying T=some (.slice e))(hx:pY P (some xT)=true)
    {z:List AV} (he:u6 P e z)
    {base:Option Addr} {n cap:Nat} {olds news:List Value} (hold:∀w',(∀b j,w'.cell? ⟨b,j,none⟩=w.cell? ⟨b,j,none⟩)->(bp (P.cellsOf e) n (.slice base n cap)).run P w'=.ok olds.toArray w')
    (qL:∀w',(∀b j,w'.cell? ⟨b,j,none⟩=w.cell? ⟨b,j,none⟩)->(bp (P.cellsOf e) m u).run P w'=.ok news.toArray w')
    (hg:cap<n+m) (fN:(n+m)*P.bytesOf e<=2^46) (I6:n+m<=2^46) (ty:TypeId):
    ∃(qc:Nat)(rest:List Value),n+m<=qc∧rest.length=(qc-(n+m))*P.cellsOf e∧
      (bw #[T,xT] ty #[.slice base n cap,u]).run P w=.ok (.slice (some ⟨w.heap.size,0,none⟩) (n+m) qc) (w.drew.alloc (.cells ((olds++news)++rest).toArray e)):=by
  obtain⟨hz,kv,yo⟩:=he;obtain⟨zv,QT,CQ⟩:=iP hz;obtain⟨i,hi⟩:=la kv;have hb:P.bytesOf e=i.bytes:=(by simp[Program.bytesOf,hi]);have Of:∀w',(typeInfo e).run P w'=.ok i w':=(fun w'=>by simp[typeInfo,hi]);have YJ:¬(n+m<=cap):=oM;have tf:¬(9223372036854775807<(n:Int)+(m:Int)):=oM;have z7:=nextslicecap_le (need:=n+m) (old:=cap) hg;have tg:¬(2^48<cG (n+m) cap*i.bytes):=by
    rw[hb] at fN;have h2:cG (n+m) cap*i.bytes<=2*(n+m)*i.bytes:=b9 _ z7;rw[Nat.mul_assoc] at h2;omega
  have yo:zv.cells.size=P.cellsOf e:=by
    rw[CQ] at yo;simpa using yo
  have yp:=hold w.drew (fun b j=>rfl);have hn1:=qL w.drew (fun b j=>rfl);refine⟨_,(cc zv.cells ((cv (n+m) cap e).cut (w.tape w.drawn (.appendCap (n+m) cap e))-(n+m))).toList,lg (n+m) cap e (w.tape w.drawn (.appendCap (n+m) cap e)),?_,?_⟩
  · simp[cc,yo]
  · have hf:(cv (n+m) cap e).forced=false:=rfl;rcases te hx with⟨e',hx⟩|hx;all_goals
      simp[bw,run_underlying hT,eu kv,run_underlying hx,kF,YJ,Of,tf,tg,hf,yp,hn1,QT,newRow];congr 2;apply cF;simp[List.append_assoc]
theorem wA{m:Nat}{u:Value}(kF:∀w',(dd u).run P w'=.ok m w'){T xT e:TypeId}(hT:P.underlying T=some (.slice e))(hx:pY P (some xT)=true)(kv:P.cellsOf e≠0)
    {b off n cap:Nat} {news:List Value}
    (qL:(bp (P.cellsOf e) m u).run P w=.ok news.toArray w)
    (hc:∀j,j<news.length->(w.cell? ⟨b,off+n*P.cellsOf e+j,none⟩).isSome=true) (hf:∀j,j<news.length->w.frozen? ⟨b,off+n*P.cellsOf e+j,none⟩=false) (h1:∀v∈news,v.oneCell'=true)
    (hg:n+m<=cap) (ty:TypeId):
    (bw #[T,xT] ty #[.slice (some ⟨b,off,none⟩) n cap,u]).run P w=.ok (.slice (some ⟨b,off,none⟩) (n+m) cap) (w.setCells b (off+n*P.cellsOf e) news):=by
  have np:=run_storeCells_cells (P:=P) b (off+n*P.cellsOf e) news 0 w (by simpa using hc) (by simpa using hf) h1;simp only[Nat.add_zero] at np;rcases te hx with⟨e',hx⟩|hx;all_goals
    simp[bw,run_underlying hT,eu kv,run_underlying hx,kF,hg,qL,gI,np]
theorem ng{u:Value}(kF:∀w',(dd u).run P w'=.ok 0 w'){T xT e:TypeId}(hT:P.underlying T=some (.slice e))(hx:pY P (some xT)=true)(kv:P.cellsOf e≠0)
    {base:Option Addr} {n cap:Nat} (qL:(bp (P.cellsOf e) 0 u).run P w=.ok #[] w) (hg:n<=cap) (ty:TypeId):
    (bw #[T,xT] ty #[.slice base n cap,u]).run P w=.ok (.slice base n cap) w:=by
  rcases te hx with⟨e',hx⟩|hx;all_goals
    cases base<;>simp[bw,run_underlying hT,eu kv,run_underlying hx,kF,hg,qL,storeCells]
theorem qM:∀{ds:List AV}{us:List Value},dP G ds us->ds.all AV.one=true->∀u∈us,u.oneCell'=true
  |[],us,h,_=>by simp only[dP] at h;subst h;simp
  |d::ds,us,h,ha=>by
    simp only[dP] at h;obtain⟨u,BW,rfl,h2,h3⟩:=h;simp only[List.all_cons,aw] at ha;intro x hx;rcases List.mem_cons.1 hx with rfl|hx
    · have h1:=ha.1;cases d with
      |v y=>simp only[dQ] at h2;subst h2;cases x<;>simp[AV.one] at h1<;>rfl
      |sl sz n cs sp=>simp only[dQ] at h2;rcases h2 with⟨b,off,cap,vs,rfl,_⟩|⟨_,_,a,cap,rfl,_⟩|⟨_,_,_,rfl⟩<;>rfl
      |ij cs=>simp only[dQ] at h2;obtain⟨b,off,vs,rfl,_⟩:=h2;rfl
      |ptr o off=>simp only[dQ] at h2;obtain⟨b,_,rfl⟩:=h2;rfl
      |jd o off sz n cap=>simp only[dQ] at h2;obtain⟨b,_,rfl,_⟩:=h2;rfl
      |agg cs=>simp[AV.one] at h1
      |ka cs=>simp[AV.one] at h1
      |wm f cs=>simp only[dQ] at h2;obtain⟨vs,rfl,_⟩:=h2;rfl
    · exact qM h3 ha.2 x hx
def lB(P:Program)(e:TypeId)(x:AV)(m:Nat)(ds:List AV)(s:AS)(K:AV->AS->Prop):Prop:=
  match x with
  |.v (.slice none 0 0)=>
    if m=0 then K (.v (.slice none 0 0)) s
    else m*P.bytesOf e<=2^46∧m<=2^46∧∀t,s.own t=none->K (.sl (P.cellsOf e) m ds (.own t 0)) (s.eT t 0)
  |.sl sz n cs sp=>
    if m=0 then K (.sl sz n cs sp) s
    else sz=P.cellsOf e∧(n+m)*P.bytesOf e<=2^46∧n+m<=2^46∧ds.all AV.one=true∧
      match sp with
      |.full=>∀t,s.own t=none->K (.sl sz (n+m) (cs++ds) (.own t 0)) (s.eT t 0)
      |.new=>∀t,s.own t=none->K (.sl sz (n+m) (cs++ds) (.own t 0)) (s.eT t 0)
      |.own t g=>s.own t=some g∧K (.sl sz (n+m) (cs++ds) (.own t (g+1))) (s.eT t (g+1))
      |.no=>False
      |.any=>False
  |_=>False
theorem wB{x y:AV}{u v:Value}{m:Nat}{ds:List AV}{T xT e:TypeId}{z:List AV}{K:AV->AS->Prop}(hT:P.underlying T=some (.slice e))(hx:pY P (some xT)=true)(he:u6 P e z)
    (kF:nL (P.cellsOf e) s y=some (m,ds)) (h:lB P e x m ds s K) (sY:dQ G x u) (B2:dQ G y v) (hs:eo Γ G s w) (ty:TypeId):
    ∃G' z w' r s',(bw #[T,xT] ty #[u,v]).run P w=.ok z w'∧G.le G'∧eo Γ G' s' w'∧dQ G' r z∧K r s':=by
  obtain⟨us,hv,hlen,oD,lI⟩:=xl (P:=P) kF B2 hs
  have LG:=hv.length
  unfold lB at h
  split at h
  · -- onto nil
    simp only[dQ] at sY
    subst sY
    split at h
    · rename_i hm
      subst hm
      have qd:us=[]:=al (by simpa using hlen)
      subst qd
      exact⟨G,_,w,_,s,ng oD hT hx he.2.1 (lI w (fun _ _=>rfl)) (ax _) ty,.refl G,hs,by simp[dQ],h⟩
    · rename_i hm
      obtain⟨h1,h2,h3⟩:=h
      obtain⟨qc,rest,Ct,EX,qK⟩:=nM (P:=P) (w:=w) oD hT hx he (base:=none) (n:=0) (cap:=0) (olds:=[]) (news:=us)
        (fun w' _=>run_firstCells_none w' _ _ _ _) lI oM (by simpa using h1) (by simpa using h2) ty
      simp only[bf] at Ct EX qK
      obtain⟨G',g1,g2,g3,g4,g5,g6⟩:=hs.drew.uX us rest e G.nt 0 (fun e' _=>hs.fW _ (ax _) e')
      refine⟨G',_,_,_,_,qK,g1,g2,?_,h3 G.nt (hs.nj (ax _))⟩
      simp only[dQ]
      refine .inl ⟨w.heap.size,0,qc,us,rfl,oM,Ct,dP.mono g1 _ _ hv,g3,?_⟩
      simp only[ke]
      rw[g4]
      simp only[ai,hlen,EX,bf]
      rw[<-cX,Nat.add_sub_cancel' Ct]
      rfl
  · -- onto a slice
    rename_i sz n cs sp
    have U5:=sY
    simp only[dQ] at sY
    rcases sY with⟨b,off,cap,vs,rfl,hl,Hf,LH,vN,uY⟩|⟨rfl,rfl,a,cap,rfl,CT⟩|⟨rfl,rfl,rfl,rfl⟩
    case inr.inr=>
      split at h
      · rename_i hm
        subst hm
        have qd:us=[]:=al (by simpa using hlen)
        subst qd
        exact⟨G,_,w,_,s,ng oD hT hx he.2.1 (lI w (fun _ _=>rfl)) (ax _) ty,.refl G,hs,U5,h⟩
      · obtain⟨rfl,h1,h2,pL,h3⟩:=h
        exact h3.elim
    case inr.inl=>
      split at h
      · rename_i hm
        subst hm
        have qd:us=[]:=al (by simpa using hlen)
        subst qd
        exact⟨G,_,w,_,s,ng oD hT hx he.2.1 (lI w (fun _ _=>rfl)) (Nat.zero_le _) ty,.refl G,hs,U5,h⟩
      · rename_i hm
        obtain⟨rfl,h1,h2,pL,h3⟩:=h
        rcases CT with rfl|rfl|⟨rfl,rfl⟩
        · exact h3.elim
        · exact h3.elim
        ·
          obtain⟨qc,rest,Ct,EX,qK⟩:=nM (P:=P) (w:=w) oD hT hx he (base:=some a) (n:=0) (cap:=0) (olds:=[]) (news:=us)
            (fun w' _=>run_firstCells_some w' _ _ _ _ _ [] sM sM) lI oM h1 h2 ty
          simp only[bf] at Ct EX qK h3
          obtain⟨G',g1,g2,g3,g4,g5,g6⟩:=hs.drew.uX us rest e G.nt 0 (fun e' _=>hs.fW _ (ax _) e')
          refine⟨G',_,_,_,_,qK,g1,g2,?_,h3 G.nt (hs.nj (ax _))⟩
          simp only[dQ]
          refine .inl ⟨w.heap.size,0,qc,us,rfl,by simp only[aP];omega,Ct,dP.mono g1 _ _ hv,g3,?_⟩
          simp only[ke]
          rw[g4]
          simp only[ai,hlen,EX,bf]
          rw[<-cX,Nat.add_sub_cancel' Ct]
          rfl
    have Xm:=LH.length
    split at h
    · rename_i hm
      subst hm
      have qd:us=[]:=al (by simpa using hlen)
      subst qd
      exact⟨G,_,w,_,s,ng oD hT hx he.2.1 (lI w (fun _ _=>rfl)) Hf ty,.refl G,hs,U5,h⟩
    · rename_i hm
      obtain⟨rfl,h1,h2,pL,h3⟩:=h
      have hold:∀w',(∀b j,w'.cell? ⟨b,j,none⟩=w.cell? ⟨b,j,none⟩)->(bp (P.cellsOf e) n (.slice (some ⟨b,off,none⟩) n cap)).run P w'=.ok vs.toArray w':=
        fun w' YI=>run_firstCells_some w' _ _ _ _ _ vs oM (fun j v hj=>by rw[gI,YI];exact hs.ro _ _ _ (vN j v hj))
      have grow:∀(t g:Nat),cap<n+m->(∀e',g<=e'->G.tok t e'=none)->
          ∃G' z w',(bw #[T,xT] ty #[.slice (some ⟨b,off,none⟩) n cap,v]).run P w=.ok z w'∧G.le G'∧eo Γ G' (s.eT t g) w'∧dQ G' (.sl (P.cellsOf e) (n+m) (cs++ds) (.own t g)) z:=by
        intro t g fB ht
        obtain⟨qc,rest,Ct,EX,qK⟩:=nM (P:=P) (w:=w) oD hT hx he (base:=some ⟨b,off,none⟩) (n:=n) (cap:=cap) (olds:=vs) (news:=us) hold lI fB h1 h2 ty
        obtain⟨G',g1,g2,g3,g4,g5,g6⟩:=hs.drew.uX (vs++us) rest e t g ht
        refine⟨G',_,_,qK,g1,g2,?_⟩
        simp only[dQ]
        refine .inl ⟨w.heap.size,0,qc,vs++us,rfl,by simp only[ai,hl,LG,hlen,cX],Ct,dP.mono g1 _ _ (LH.append hv),g3,?_⟩
        simp only[ke]
        rw[g4]
        have e1:(vs++us).length=(n+m)*P.cellsOf e:=by simp only[ai,<-Xm,hl,hlen,cX]
        rw[ai (as:=vs++us),e1,EX,bf,bf,<-cX,Nat.add_sub_cancel' Ct]
        rfl
      split at h3
      · -- no room
        simp only[ke] at uY
        subst uY
        obtain⟨G',z,w',q1,q2,q3,q4⟩:=grow G.nt 0 oM (fun e' _=>hs.fW _ (ax _) e')
        exact⟨G',z,w',_,_,q1,q2,q3,q4,h3 G.nt (hs.nj (ax _))⟩
      · -- a literal: no room
        simp only[ke] at uY
        obtain⟨uY,-⟩:=uY
        subst uY
        obtain⟨G',z,w',q1,q2,q3,q4⟩:=grow G.nt 0 oM (fun e' _=>hs.fW _ (ax _) e')
        exact⟨G',z,w',_,_,q1,q2,q3,q4,h3 G.nt (hs.nj (ax _))⟩
      · rename_i t g
        obtain⟨ht,hK⟩:=h3
        simp only[ke] at uY
        rcases ch cap (n+m) with fB|gC
        · obtain⟨G',z,w',q1,q2,q3,q4⟩:=grow t (g+1) fB (fun e' he'=>hs.fL t g ht e' oM)
          exact⟨G',z,w',_,_,q1,q2,q3,q4,hK⟩
        · have Rf:off+n*P.cellsOf e+us.length<=off+cap*P.cellsOf e:=by
            rw[hlen,cK,<-cX]
            exact Nat.add_le_add_left (b9 _ gC) _
          obtain⟨f1,f2,G',g1,g2,g3,g4⟩:=hs.fill ht uY Rf
          refine⟨G',_,_,_,_,wA oD hT hx he.2.1 (lI w (fun _ _=>rfl)) f1 f2 (qM hv pL) gC ty,g1,g2,?_,hK⟩
          simp only[dQ]
          refine .inl ⟨b,off,cap,vs++us,rfl,by simp only[ai,hl,LG,hlen,cX],gC,dP.mono g1 _ _ (LH.append hv),?_,?_⟩
          · intro j x hj
            rcases ch j vs.length with Jw|Jw
            · rw[List.getElem?_append_left Jw] at hj
              exact g1.ro _ _ _ (vN j x hj)
            · rw[List.getElem?_append_right Jw] at hj
              have:=g3 (j-vs.length) x hj
              rwa [show off+n*P.cellsOf e+(j-vs.length)=off+j from by rw[<-hl,Xm];omega] at this
          · simp only[ke]
            rw[g4,hlen,cK,<-cX]
      · exact h3.elim
      · exact h3.elim
  · exact h.elim
theorem xm{n:Nat}{T xT xS e:TypeId}{k:IntKind}(hT:P.underlying T=some (.slice e))(hx:P.underlying xT=some (.int k))(hS:P.underlying xS=some .string)
    (hz:eO P e=some [.v (.int .u8 0)]) (hc:P.cellsOf e=1) (hb:P.bytesOf e=1) (hn:n<=2^45) {base:Option Addr} {m cap:Nat} (hm:m<=2^45) (ty:TypeId):
    (bw #[T,xT] ty #[.slice base m cap,.int .i64 n]).run P w=(bw #[T,xS] ty #[.slice base m cap,.string ⟨(ae n (0:UInt8)).toArray⟩]).run P w:=by
  have kv:P.cellsOf e≠0:=oM;obtain⟨zv,QT,CQ⟩:=iP hz;obtain⟨i,hi⟩:=la kv;have LI:i.bytes=1:=(by rw[<-hb];simp[Program.bytesOf,hi]);have Of:∀w',(typeInfo e).run P w'=.ok i w':=(fun w'=>by simp[typeInfo,hi]);have hw:c9.wrap (n:Int)=n:=cq _ oM;have EZ:¬((n:Int)<0):=oM;have Pn:¬((281474976710656:Int)<(n:Int)):=oM;have QV:(⟨(ae n (0:UInt8)).toArray⟩:ByteArray).size=n:=(by simp[ByteArray.size]);have hzc:zv.cells= #[.int .u8 0]:=by
    have :zv.cells.toList.map AV.v=[AV.v (.int .u8 0)]:=(by rw[<-CQ]);cases h:zv.cells.toList with
    |nil=>rw[h] at this;simp at this
    |cons a t=>
      rw[h] at this;simp at this;obtain⟨h1,h2⟩:=this;subst h1 h2;apply cF;simpa using h
  have YK:((⟨(ae n (0:UInt8)).toArray⟩:ByteArray).extract 0 n).data.map (fun b=>Value.int .u8 b.toNat)=cc zv.cells n:=by
    have e:(⟨(ae n (0:UInt8)).toArray⟩:ByteArray).extract 0 n=⟨(ae n (0:UInt8)).toArray⟩:=by
      apply ByteArray.ext;simp
    rw[hzc,e];apply cF;simp only[cc];apply br;intro j;by_cases hj:j<n
    · simp[hj,List.getElem?_replicate,Nat.mod_one]
    · simp[hj,List.getElem?_replicate]
  generalize (⟨(ae n (0:UInt8)).toArray⟩:ByteArray)=bb at QV YK⊢;have tf:¬(9223372036854775807<(m:Int)+(n:Int)):=oM;by_cases hg:m+n<=cap
  · by_cases h0:n=0
    · subst h0;have Rg:c9.wrap 0=0:=dM;have hz0:cc zv.cells 0= #[]:=(by simp[cc]);simp at hg tf;simp[Rg,hz0,bw,run_underlying hT,eu kv,run_underlying hx,run_underlying hS,asInt,asIntOf,hw,EZ,Of,Pn,hg,LI,hc,QT,bp,dd,QV]
    · simp[bw,run_underlying hT,eu kv,run_underlying hx,run_underlying hS,asInt,asIntOf,hw,EZ,Of,Pn,hg,LI,hc,QT,bp,dd,QV,h0,<-YK]
  · have z7:=nextslicecap_le (need:=m+n) (old:=cap) oM;have tg:¬(2^48<cG (m+n) cap):=oM;by_cases h0:n=0
    · subst h0;have Rg:c9.wrap 0=0:=dM;have hz0:cc zv.cells 0= #[]:=(by simp[cc]);have hg1:¬m<=cap:=oM;have Po:¬(9223372036854775807<(m:Int)):=oM;have xfq:¬(281474976710656<cG m cap):=(by simpa using tg);simp[hg1,Po,xfq,Rg,hz0,bw,run_underlying hT,eu kv,run_underlying hx,run_underlying hS,asInt,asIntOf,hw,EZ,Of,Pn,hg,LI,hc,QT,bp,dd,QV,tg,tf]
    · simp[bw,run_underlying hT,eu kv,run_underlying hx,run_underlying hS,asInt,asIntOf,hw,EZ,Of,Pn,hg,LI,hc,QT,bp,dd,QV,h0,tg,tf,<-YK]
def Jx(P:Program)(e xT:TypeId)(x y:AV)(s:AS)(K:AV->AS->Prop):Prop:=
  ∃(n:Nat)(xS:TypeId)(k:IntKind)(sz m:Nat)(cs:List AV)(sp:Sp),y=.v (.int .i64 n)∧x=.sl sz m cs sp∧P.underlying xT=some (.int k)∧P.underlying xS=some .string∧
    eO P e=some [.v (.int .u8 0)]∧P.cellsOf e=1∧P.bytesOf e=1∧n<=2^45∧m<=2^45∧lB P e x n (ae n (cU 0)) s K
theorem Jy{x y:AV}{u v:Value}{T xT e:TypeId}{K:AV->AS->Prop}(hT:P.underlying T=some (.slice e))(h:Jx P e xT x y s K)(sY:dQ G x u)(B2:dQ G y v)(hs:eo Γ G s w)(ty:TypeId):
    ∃G' z w' r s',(bw #[T,xT] ty #[u,v]).run P w=.ok z w'∧G.le G'∧eo Γ G' s' w'∧dQ G' r z∧K r s':=by
  obtain⟨n,xS,k,sz,m,cs,sp,rfl,rfl,hx,hS,hz,hc,hb,hn,hm,ha⟩:=h;simp only[dQ] at B2;subst B2;have xbm:∃base cap,u=.slice base m cap:=by
    have h:=sY;simp only[dQ] at h;rcases h with⟨b,off,cap,vs,rfl,_⟩|⟨rfl,_,a,cap,rfl,_⟩|⟨rfl,_,_,rfl⟩
    · exact⟨_,_,rfl⟩
    · exact⟨_,_,rfl⟩
    · exact⟨_,_,rfl⟩
  obtain⟨base,cap,rfl⟩:=xbm;rw[xm hT hx hS hz hc hb hn hm ty];have kF:nL (P.cellsOf e) s (.v (.string ⟨(ae n (0:UInt8)).toArray⟩))=some (n,ae n (cU 0)):=by
    rw[hc];simp only[nL,if_true];congr 1;have e1:(⟨(ae n (0:UInt8)).toArray⟩:ByteArray).size=n:=(by simp[ByteArray.size]);rw[e1];simp
  exact wB (y:=.v (.string ⟨(ae n (0:UInt8)).toArray⟩)) hT (by unfold pY;simp[hS]) ⟨hz,oM,by rw[hc];rfl⟩ kF ha sY rfl hs ty
end Go.AM
namespace Go.AM
open Go Go.RowKit
variable{P:Program}{Γ:Nat->List AV}{G:Gh}{s:AS}{w:World}
def dS(P:Program)(Γ:Nat->List AV)(f:FuncId)(args:List AV)(s:AS)(fV:AV->AS->Prop):Prop:=
  ∀(G:Gh)(w:World)(vs:List Value),eo Γ G s w->dP G args vs->
    Calls P f vs.toArray w fun e w'=>∃G' r v s',e=.returned v∧G.le G'∧eo Γ G' s' w'∧dQ G' r v∧fV r s'
theorem dS.mono{f:FuncId}{args:List AV}{s:AS}{Q R:AV->AS->Prop}(h:dS P Γ f args s Q)(k:∀r s',Q r s'->R r s'):dS P Γ f args s R:=
  fun G w vs hs hv=>(h G w vs hs hv).mono fun _ _ ⟨G',r,v,s',h1,h2,h3,h4,h5⟩=>⟨G',r,v,s',h1,h2,h3,h4,k r s' h5⟩
def AV.dV(a b:AV):Prop:=∀G v,dQ G a v->dQ G b v
theorem AV.dV.refl(a:AV):a.dV a:=fun _ _ h=>h
theorem AV.fc{sz n:Nat}{cs:List AV}{sp:Sp}:(AV.sl sz n cs sp).dV (.sl sz n cs .any):=by
  intro G v h;simp only[dQ] at h⊢;rcases h with⟨b,off,cap,vs,h1,h2,h3,h4,h5,_⟩|⟨h1,h2,a,cap,h3,_⟩|⟨h1,h2,_,h3⟩
  · exact .inl ⟨b,off,cap,vs,h1,h2,h3,h4,h5,trivial⟩
  · exact .inr (.inl ⟨h1,h2,a,cap,h3,sM⟩)
  · exact .inr (.inr ⟨h1,h2,sM,h3⟩)
theorem AV.eh{sz:Nat}:(AV.v (.slice none 0 0)).dV (.sl sz 0 [] .any):=by
  intro G v h;simp only[dQ] at h⊢;exact .inr (.inr ⟨sM,sM,sM,h⟩)
theorem AV.U6{sz n:Nat}{cs:List AV}{sp:Sp}(ha:sp.isAny=false):(AV.sl sz n cs sp).dV (.sl sz n cs .no):=by
  intro G v h;simp only[dQ] at h⊢;rcases h with⟨b,off,cap,vs,h1,h2,h3,h4,h5,_⟩|⟨h1,h2,a,cap,h3,_⟩|⟨h1,h2,h3,_⟩
  · exact .inl ⟨b,off,cap,vs,h1,h2,h3,h4,h5,trivial⟩
  · exact .inr (.inl ⟨h1,h2,a,cap,h3,sM⟩)
  · subst h3;cases ha
theorem dQ.any{G:Gh}{sz n:Nat}{cs:List AV}{v:Value}(h:dQ G (.sl sz n cs .any) v):(n=0∧cs=[]∧dQ G (.v (.slice none 0 0)) v)∨dQ G (.sl sz n cs .no) v:=by
  simp only[dQ] at h⊢;rcases h with⟨b,off,cap,vs,h1,h2,h3,h4,h5,_⟩|⟨h1,h2,a,cap,h3,_⟩|⟨h1,h2,_,h3⟩
  · exact .inr (.inl ⟨b,off,cap,vs,h1,h2,h3,h4,h5,trivial⟩)
  · exact .inr (.inr (.inl ⟨h1,h2,a,cap,h3,sM⟩))
  · exact .inl ⟨h1,h2,h3⟩
theorem AS.le.refl(s:AS):s.le s:=⟨fun _ _ h=>h,fun _ _ h=>h⟩
theorem AS.le.trans{a b c:AS}(h:a.le b)(k:b.le c):a.le c:=⟨fun o cs x=>k.dD o cs (h.dD o cs x),fun t e x=>k.own t e (h.own t e x)⟩
theorem AS.dW{s s':AS}(h:s.le s'){o:Nat}(ho:s.dD o=none)(cs:List AV):s.le (s'.set o cs):=by
  refine⟨fun o' cs' hc=>?_,h.own⟩;by_cases e:o'=o
  · subst e;rw[ho] at hc;cases hc
  · simp[AS.set,dY,e];exact h.dD o' cs' hc
theorem AS.eE{s s':AS}(h:s.le s'){t:Nat}(ht:s.own t=none)(g:Nat):s.le (s'.eT t g):=by
  refine⟨h.dD,fun t' e' he=>?_⟩;by_cases e:t'=t
  · subst e;rw[ht] at he;cases he
  · simp[AS.eT,dY,e];exact h.own t' e' he
theorem AS.th{s s':AS}(h:s.le s'){o:Nat}(ho:s.dD o=none):s.le (s'.drop o):=by
  refine⟨fun o' cs' hc=>?_,h.own⟩;by_cases e:o'=o
  · subst e;rw[ho] at hc;cases hc
  · simp[AS.drop,dY,e];exact h.dD o' cs' hc
def b7(P:Program)(k:FuncId):Bool:=
  match P.funcs[k]? with
  | some fn=>fn.name != "runtime.NumGoroutine" && fn.body.isSome
  |none=>false
def ic(P:Program)(Γ:Nat->List AV)(ρ:Operand->AV)(s:AS)(K:AV->AS->Prop):Op->Prop
  |.load T x=>
    match ρ x with
    |.ptr o off=>
      match s.dD o with
      |some cs=>P.cellsOf T≠0∧(match tY P T (cs.drop off) with |some v=>K v s|none=>False)
      |none=>False
    |_=>False
  |.store T a x=>
    match ρ a with
    |.ptr o off=>
      match s.dD o with
      |some cs=>P.cellsOf T≠0∧(ρ x).cells.length=P.cellsOf T∧off+(ρ x).cells.length<=cs.length∧(ρ x).cells.all AV.one=true∧K (.v undef) (s.set o (eQ cs off (ρ x).cells))
      |none=>False
    |_=>False
  |.alloc T=>match eO P T with |some z=>∀o,s.dD o=none->K (.ptr o 0) (s.set o z)|none=>False
  |.box _ x=>∀o,s.dD o=none->K (.ptr o 0) (s.set o (ρ x).cells)
  |.makeSlice T l c=>
    match P.underlying T,ρ l,ρ c with
    |some (.slice e),.v (.int _ n),.v (.int _ m)=>
      match eO P e with
      |some z=>0<=n∧m=n∧P.bytesOf e*n<=2^46∧n<=2^46∧P.cellsOf e≠0∧z.length=P.cellsOf e∧
          ∀o,s.dD o=none->K (.jd o 0 (P.cellsOf e) n.toNat n.toNat) (s.set o (rF (n.toNat*P.cellsOf e) z))
      |none=>False
    |_,_,_=>False
  |.call {callee:=.builtin .append,args,argTypes}=>
    match args.toList,argTypes.toList with
    |[x,y],[T,xT]=>
      match P.underlying T with
      |some (.slice e)=>
        match eO P e,nL (P.cellsOf e) s (ρ y) with
        |some z,some (m,ds)=>pY P (some xT)=true∧P.cellsOf e≠0∧z.length=P.cellsOf e∧lB P e (ρ x) m ds s K
        |_,_=>Jx P e xT (ρ x) (ρ y) s K
      |_=>False
    |_,_=>False
  |.call {callee:=.builtin .copy,args,argTypes}=>
    match args.toList,argTypes.toList with
    |[x,y],[T,_]=>
      match P.underlying T with
      |some (.slice e)=>
        match nL (P.cellsOf e) s (ρ y),ρ x with
        |some (m,ds),.jd o off _ n _=>
          match s.dD o with
          |some cs=>P.cellsOf e≠0∧ds.all AV.one=true∧off+min m n*P.cellsOf e<=cs.length∧
              K (.v (.int .i64 ((min m n:Nat):Int))) (s.set o (eQ cs off (ds.take (min m n*P.cellsOf e))))
          |none=>False
        |_,_=>False
      |_=>False
    |_,_=>False
  |.call {callee:=.value f,args,.. }=>
    match ρ f with
    |.v (.func (.func k) first gh)=>first.isEmpty=true∧gh.isEmpty=true∧b7 P k=true∧dS P Γ k (args.toList.map ρ) s K
    |.wm k gh=>b7 P k=true∧dS P Γ k (args.toList.map ρ++gh) s K
    |_=>False
  |_=>False
def fS(P:Program)(Γ:Nat->List AV)(ρ:Operand->AV)(s:AS)(K:AV->AS->Prop)(op:Op):Prop:=
  match gG P ρ op with
  |some r=>K r s
  |none=>ic P Γ ρ s K op
def iB(P:Program)(Γ:Nat->List AV)(G:Gh)(K:AV->AS->Prop):Result Next->Prop
  |.ok (.value v) w'=>∃G' r s',G.le G'∧eo Γ G' s' w'∧dQ G' r v∧K r s'
  |.ok .skip w'=>∃G' s',G.le G'∧eo Γ G' s' w'∧K (.v undef) s'
  |.ok (.enter f args) w'=>Calls P f args w' fun e z8=>∃G' r v s',e=.returned v∧G.le G'∧eo Γ G' s' z8∧dQ G' r v∧K r s'
  |_=>False
theorem ti{k:FuncId}(h:b7 P k=true)(args:Array Value):(callFunc k args).run P w=.ok (.enter k args) w:=by
  unfold b7 at h;split at h
  · rename_i fn hf;simp only[aw,bne_iff_ne,ne_eq] at h;obtain⟨h1,h2⟩:=h;have h3:fn.body.isNone=false:=(by cases hb:fn.body<;>simp[hb] at h2⊢);have h4:fn.body≠none:=(by intro e;simp[e] at h2);simp[callFunc,hf,h1,h4]
  · cases h
theorem qe(h:eo Γ G s w){o b off:Nat}{cs ds:List AV}{us:List Value}(ho:s.dD o=some cs)(hb:G.obj o=some b)(hle:off+ds.length<=cs.length)(hd:dP G ds us):
    (∀j,j<us.length->(w.cell? ⟨b,off+j,none⟩).isSome=true)∧(∀j,j<us.length->w.frozen? ⟨b,off+j,none⟩=false)∧
      eo Γ G (s.set o (eQ cs off ds)) (w.setCells b off us):=by
  have LG:=hd.length;have lI:(∀j,j<us.length->(w.cell? ⟨b,off+j,none⟩).isSome=true)∧(∀j,j<us.length->w.frozen? ⟨b,off+j,none⟩=false):=by
    obtain⟨b',vs,h1,h2,h3,h4⟩:=h.dD o cs ho;rw[hb] at h1;cases h1;have hl:=h2.length;refine⟨fun j hj=>?_,fun j hj=>?_⟩
    · have:=(h4 (off+j) (vs[off+j]'oM) sM).1;simp[this]
    · exact(h4 (off+j) (vs[off+j]'oM) sM).2.1
  refine⟨lI.1,lI.2,?_⟩;clear lI;induction ds generalizing us s w cs off with
  |nil=>
    simp only[dP] at hd;subst hd;simp only[eQ,dx];have :s.set o cs=s:=by
      cases s with
      |mk dD own=>
        simp only[AS.set,AS.mk.injEq,and_true];funext i;simp only[dY];split
        · rename_i e;subst e;exact ho.symm
        · rfl
    rw[this];exact h
  |cons d ds ih=>
    simp only[dP] at hd;obtain⟨u,BW,rfl,hu,Xn⟩:=hd;simp only[List.length_cons] at hle;obtain⟨_,_,h1⟩:=h.setCell ho hb (i:=off) oM hu;simp only[eQ,dx];have:=ih (s:=s.set o (cs.set off d)) (w:=w.setCell ⟨b,off,none⟩ u) (cs:=cs.set off d) (off:=off+1) (us:=BW) h1 (by simp[AS.set]) (by simp;omega) Xn Xn.length;have e:(s.set o (cs.set off d)).set o (eQ (cs.set off d) (off+1) ds)=s.set o (eQ (cs.set off d) (off+1) ds):=by
      simp only[AS.set,AS.mk.injEq,and_true];funext i;simp only[dY];split <;>rfl
    rw[e] at this;exact this
theorem Fa(h:eo Γ G s w){T:TypeId}{o off:Nat}{cs:List AV}{x:AV}{u a:Value}(ho:s.dD o=some cs)(ha:dQ G (.ptr o off) a)(hz:P.cellsOf T≠0)(kv:x.cells.length=P.cellsOf T)
    (hle:off+x.cells.length<=cs.length) (h1:x.cells.all AV.one=true) (hx:dQ G x u):
    ∃w',(Instr.storeAt T a u).run P w=.ok () w'∧eo Γ G (s.set o (eQ cs off x.cells)) w':=by
  simp only[dQ] at ha;obtain⟨b,hb,rfl⟩:=ha;have hv:=qJ hx;have hl:=hv.length;obtain⟨f1,f2,f3⟩:=qe h ho hb hle hv;have np:=run_storeCells_cells (P:=P) b off u.cells.toList 0 w (by simpa using f1) (by simpa using f2) (qM hv h1);refine⟨_,?_,f3⟩;simp only[Nat.add_zero] at np;have xfr:u.cells.size=P.cellsOf T:=(by simp at hl;omega);simp[Instr.storeAt,dq,storeVar,eu hz,xfr,np]
theorem iQ{K:AV->AS->Prop}{x:Sem Value}(h:∃G' v w' r s',x.run P w=.ok v w'∧G.le G'∧eo Γ G' s' w'∧dQ G' r v∧K r s'):
    iB P Γ G K ((do pure (.value (<-x)):Sem Next).run P w):=by
  obtain⟨G',v,w',r,s',h1,h2,h3,h4,h5⟩:=h;simp only[bo,h1,aM,bE,iB];exact⟨G',r,s',h2,h3,h4,h5⟩
theorem CU{K:AV->AS->Prop}{k:FuncId}{as:List AV}{vs:List Value}(hc:b7 P k=true)(h:dS P Γ k as s K)(hs:eo Γ G s w)(hv:dP G as vs):
    iB P Γ G K ((callFunc k vs.toArray).run P w):=by
  rw[ti hc];exact h G w vs hs hv
theorem Pp{ρ:Operand->AV}{ρ':Operand->Value}{K:AV->AS->Prop}{T:TypeId}{x:Operand}{o:Oper}(ho:o.op=.load T x)(h:ic P Γ ρ s K (.load T x))(hρ:∀x,dQ G (ρ x) (ρ' x))(hs:eo Γ G s w):
    iB P Γ G K ((execOp ρ' o).run P w):=by
  simp only[ic] at h;have hx:=hρ x;split at h
  · rename_i ob off hc;rw[hc] at hx;split at h
    · rename_i cs LJ;obtain⟨hz,h⟩:=h;split at h
      · rename_i v hl;simp only[dQ] at hx;obtain⟨b,hb,hu⟩:=hx;obtain⟨b',vs,h1,h2,h3,h4⟩:=hs.dD ob cs LJ;rw[hb] at h1;cases h1;obtain⟨z,q1,q2⟩:=tc (w:=w) hl hz (h2.drop off) (b:=b) (off:=off) (fun j u hj=>by
          rw[gI];rw[cd] at hj;exact(h4 _ _ hj).1)
        have e:execOp ρ' o=(do pure (.value (<-Instr.loadAt T (ρ' x)))):=(by simp only[execOp,ho]);rw[e];exact iQ ⟨G,z,w,v,s,by simp only[hu,Instr.loadAt,dq,bo,bE,aM,q1],.refl G,hs,q2,h⟩
      · exact h.elim
    · exact h.elim
  · exact h.elim
theorem Mb{ρ:Operand->AV}{ρ':Operand->Value}{K:AV->AS->Prop}{T:TypeId}{x y:Operand}{o:Oper}(ho:o.op=.store T x y)(h:ic P Γ ρ s K (.store T x y))(hρ:∀x,dQ G (ρ x) (ρ' x))(hs:eo Γ G s w):
    iB P Γ G K ((execOp ρ' o).run P w):=by
  simp only[ic] at h;have hx:=hρ x;split at h
  · rename_i ob off hc;rw[hc] at hx;split at h
    · rename_i cs LJ;obtain⟨hz,h1,h2,h3,h4⟩:=h;obtain⟨w',q1,q2⟩:=Fa (P:=P) hs LJ hx hz h1 h2 h3 (hρ y);have e:execOp ρ' o=(do Instr.storeAt T (ρ' x) (ρ' y);pure .skip):=(by simp only[execOp,ho]);rw[e];simp only[bo,q1,aM,bE,iB];exact⟨G,_,.refl G,q2,h4⟩
    · exact h.elim
  · exact h.elim
theorem Jz{K:AV->AS->Prop}{cs:List AV}{T:TypeId}{v:Value}(h:∀o,s.dD o=none->K (.ptr o 0) (s.set o cs))(hv:dP G cs v.cells.toList)(hs:eo Γ G s w):
    iB P Γ G K ((do pure (.value (<-(do pure (.pointer (some (<-newVar T v))):Sem Value))):Sem Next).run P w):=by
  obtain⟨o,h1,h2,h3,h4⟩:=hs.newObj hv T;refine iQ ⟨_,.pointer (some ⟨w.heap.size,0,none⟩),_,_,_,?_,h2,h3,?_,h o h1⟩
  · simp[newVar,newRow]
  · simp only[dQ];exact⟨_,h4,rfl⟩
theorem Mc{ρ:Operand->AV}{ρ':Operand->Value}{K:AV->AS->Prop}{T:TypeId}{o:Oper}(ho:o.op=.alloc T)(h:ic P Γ ρ s K (.alloc T))(hs:eo Γ G s w):
    iB P Γ G K ((execOp ρ' o).run P w):=by
  simp only[ic] at h;split at h
  · rename_i z hz;obtain⟨v,hv,rfl⟩:=iP hz;have:=Jz (P:=P) (T:=T) (v:=v) h (dP.Jo _) hs;have e:(execOp ρ' o).run P w=(do pure (.value (<-(do pure (.pointer (some (<-newVar T v))):Sem Value))):Sem Next).run P w:=by
      simp[execOp,ho,Instr.alloc,hv]
    rw[e];exact this
  · exact h.elim
theorem Rh{ρ:Operand->AV}{ρ':Operand->Value}{K:AV->AS->Prop}{T:TypeId}{x:Operand}{o:Oper}(ho:o.op=.box T x)(h:ic P Γ ρ s K (.box T x))(hρ:∀x,dQ G (ρ x) (ρ' x))(hs:eo Γ G s w):
    iB P Γ G K ((execOp ρ' o).run P w):=by
  simp only[ic] at h;have:=Jz (P:=P) (T:=T) (v:=ρ' x) h (qJ (hρ x)) hs;have e:(execOp ρ' o).run P w=(do pure (.value (<-(do pure (.pointer (some (<-newVar T (ρ' x)))):Sem Value))):Sem Next).run P w:=by
    simp[execOp,ho,Instr.box]
  rw[e];exact this
theorem CV{ρ:Operand->AV}{ρ':Operand->Value}{K:AV->AS->Prop}{T:TypeId}{x y:Operand}{o:Oper}(ho:o.op=.makeSlice T x y)(h:ic P Γ ρ s K (.makeSlice T x y))(hρ:∀x,dQ G (ρ x) (ρ' x))(hs:eo Γ G s w):
    iB P Γ G K ((execOp ρ' o).run P w):=by
  simp only[ic] at h;have hx:=hρ x;have hy:=hρ y;split at h
  · rename_i e k n k' m hu hc EY;rw[hc] at hx;rw[EY] at hy;simp only[dQ] at hx hy;split at h
    · rename_i z hz;obtain⟨v,hv,rfl⟩:=iP hz;obtain⟨h0,rfl,h1,h2,h3,h4,h5⟩:=h;have kv:v.cells.size=P.cellsOf e:=(by simpa using h4);have gP:v.cells.toList≠[]:=by
        intro e';rw[e'] at h4;simp at h4;omega
      obtain⟨ob,q1,q2,q3,q4⟩:=hs.newObj (xk (G:=G) (m.toNat*P.cellsOf e) gP) e;obtain⟨i,hi⟩:=la h3;have hb:P.bytesOf e=i.bytes:=(by simp[Program.bytesOf,hi]);rw[hb] at h1;have hw:c9.wrap m=m:=cq m oM;refine(show execOp ρ' o=(do pure (.value (<-Instr.makeSlice T (ρ' x) (ρ' y)))) by simp only[execOp,ho]) ▸ iQ ⟨_,.slice (some ⟨w.heap.size,0,none⟩) m.toNat m.toNat,_,_,_,?_,q2,q3,?_,h5 ob q1⟩
      · have c1:¬(m<0):=oM;have c2:¬(281474976710656<(i.bytes:Int)*m):=oM;have LK:Array.range 0= #[]:=rfl;have pK:(Array.range (m.toNat*P.cellsOf e)).map (fun j=>v.cells[j%v.cells.size]!)=((aq (m.toNat*P.cellsOf e)).map fun i=>v.cells.toList.toArray[i%v.cells.toList.toArray.size]!).toArray:=by
          apply cF;simp
        by_cases zZ:m.toNat*P.cellsOf e=0
        · have xej:(Array.range (m.toNat*P.cellsOf e)).map (fun j=>(#[]:Array Value)[j%(#[]:Array Value).size]!)=((aq (m.toNat*P.cellsOf e)).map fun i=>v.cells.toList.toArray[i%v.cells.toList.toArray.size]!).toArray:=by
            rw[zZ];simp
          have Of:(typeInfo e).run P w=.ok i w:=(by simp[typeInfo,hi]);simp only[Instr.makeSlice,bo,run_underlying hu,hx,hy,asInt,asIntOf,bE,aM,Of,hw];simp[c1,c2,eu h3,zZ,newRow,LK]
        · have Of:(typeInfo e).run P w=.ok i w:=(by simp[typeInfo,hi]);simp only[Instr.makeSlice,bo,run_underlying hu,hx,hy,asInt,asIntOf,bE,aM,Of,hw];simp only[c1,c2,eu h3,zZ,newRow,hv,pK,decide_false,Bool.false_or,ar,if_false,bo,bE,aM,run_askRoom,run_newObj_alloc,gt_iff_lt,Int.lt_irrefl,show((2:Int)^48)=281474976710656 from rfl,decide_true,Bool.true_or]
      · simp only[dQ];exact⟨_,q4,rfl,ax _⟩
    · exact h.elim
  · exact h.elim
end Go.AM
namespace Go.AM
open Go Go.RowKit
variable{P:Program}{Γ:Nat->List AV}{G:Gh}{s:AS}{w:World}
theorem ik{ρ':Operand->Value}{o:Oper}{b:Builtin}{args:Array Operand}{argTypes:Array TypeId}(ho:o.op=.call {callee:=.builtin b,args,argTypes}):
    execOp ρ' o=builtin b argTypes o.type (args.map fun |.const _=>true|_=>false) (args.map ρ'):=by
  obtain⟨dst,op,type,pos,after,guard⟩:=o;simp only at ho;subst ho;rfl
theorem lj{α:Type}{a:Array α}{x y:α}(h:a.toList=[x,y]):a= #[x,y]:=by
  apply cF;simpa using h
theorem JA{ρ:Operand->AV}{ρ':Operand->Value}{K:AV->AS->Prop}{args:Array Operand}{argTypes:Array TypeId}{o:Oper}(ho:o.op=.call {callee:=.builtin .append,args,argTypes})
    (h:ic P Γ ρ s K (.call {callee:=.builtin .append,args,argTypes})) (hρ:∀x,dQ G (ρ x) (ρ' x)) (hs:eo Γ G s w):iB P Γ G K ((execOp ρ' o).run P w):=by
  simp only[ic] at h;split at h
  · rename_i x y T xT ha ht;split at h
    · rename_i e hT;split at h
      · rename_i z m ds hz kF;obtain⟨h1,h2,h3,h4⟩:=h;obtain⟨G',v,w',r,s',q1,q2,q3,q4,q5⟩:=wB hT h1 ⟨hz,h2,h3⟩ kF h4 (hρ x) (hρ y) hs o.type;rw[ik ho];have e1:=lj ha;have e2:=lj ht;subst e1 e2;simp only[builtin];exact iQ ⟨G',v,w',r,s',by simpa using q1,q2,q3,q4,q5⟩
      · obtain⟨G',v,w',r,s',q1,q2,q3,q4,q5⟩:=Jy hT h (hρ x) (hρ y) hs o.type;rw[ik ho];have e1:=lj ha;have e2:=lj ht;subst e1 e2;simp only[builtin];exact iQ ⟨G',v,w',r,s',by simpa using q1,q2,q3,q4,q5⟩
    · exact h.elim
  · exact h.elim
theorem Pq{ρ:Operand->AV}{ρ':Operand->Value}{K:AV->AS->Prop}{args:Array Operand}{argTypes:Array TypeId}{o:Oper}(ho:o.op=.call {callee:=.builtin .copy,args,argTypes})
    (h:ic P Γ ρ s K (.call {callee:=.builtin .copy,args,argTypes})) (hρ:∀x,dQ G (ρ x) (ρ' x)) (hs:eo Γ G s w):iB P Γ G K ((execOp ρ' o).run P w):=by
  simp only[ic] at h
  split at h
  · rename_i x y T xT ha ht
    split at h
    · rename_i e hT
      split at h
      · rename_i m ds ob off sz n cap kF hx
        split at h
        · rename_i cs LJ
          obtain⟨hz,h1,h2,h3⟩:=h
          have sY:=hρ x
          rw[hx] at sY
          simp only[dQ] at sY
          obtain⟨b,hb,hu,Hf⟩:=sY
          have B2:=hρ y
          -- the source, cut to what is copied
          have key:∃us,dP G (ds.take (min m n*P.cellsOf e)) us∧us.length=min m n*P.cellsOf e∧(dd (ρ' y)).run P w=.ok m w∧(bp (P.cellsOf e) (min m n) (ρ' y)).run P w=.ok us.toArray w:=by
            unfold nL at kF
            split at kF
            · rename_i hy
              rw[hy] at B2
              split at kF
              · rename_i Xl m' ds' sp kv
                subst kv
                cases kF
                simp only[dQ] at B2
                rcases B2 with⟨b2,YL,xfs,vs,Md,hl,_,hv,vN,_⟩|⟨rfl,rfl,a,qc,Md,_⟩|⟨rfl,rfl,_,Md⟩
                case inr.inr=>
                  refine⟨[],by simp[dP],sM,by rw[Md];rfl,?_⟩
                  rw[Md]
                  simp[bp]
                case inr.inl=>
                  refine⟨[],by simp[dP],sM,by rw[Md];rfl,?_⟩
                  rw[Md,Nat.zero_min]
                  exact run_firstCells_some w _ _ _ _ _ [] sM sM
                have hlen:=hv.length
                have hle:min m n*P.cellsOf e<=m*P.cellsOf e:=b9 _ (Nat.min_le_left _ _)
                refine⟨vs.take (min m n*P.cellsOf e),hv.take _,by simp;omega,by rw[Md];rfl,?_⟩
                rw[Md]
                exact run_firstCells_some w _ _ _ _ _ _ (by simp;omega) (fun j v hj=>by
                  rw[gI]
                  rw[aF] at hj
                  split at hj
                  · exact hs.ro _ _ _ (vN j v hj)
                  · cases hj)
              · cases kF
            · rename_i hy
              rw[hy] at B2
              cases kF
              simp only[dQ] at B2
              rw[B2]
              exact⟨[],by simp[dP],sM,rfl,by simp[bp]⟩
            · rename_i hy
              rw[hy] at B2
              split at kF
              · rename_i o2 YL Xl m' xfs kv
                subst kv
                split at kF
                · rename_i LM EX
                  split at kF
                  · rename_i iL
                    cases kF
                    simp only[dQ] at B2
                    obtain⟨b2,tj,Md,_⟩:=B2
                    obtain⟨b',vs,k1,k2,k3,k4⟩:=hs.dD o2 LM EX
                    rw[tj] at k1;cases k1
                    have hlen:=k2.length
                    have hle:min m n*P.cellsOf e<=m*P.cellsOf e:=b9 _ (Nat.min_le_left _ _)
                    refine⟨((vs.drop YL).take (m*P.cellsOf e)).take (min m n*P.cellsOf e),((k2.drop YL).take _).take _,by simp;omega,by rw[Md];rfl,?_⟩
                    rw[Md]
                    exact run_firstCells_some w _ _ _ _ _ _ (by simp;omega) (fun j v hj=>by
                      rw[gI]
                      rw[aF] at hj
                      split at hj
                      · rw[aF] at hj
                        split at hj
                        · rw[cd] at hj
                          exact(k4 _ _ hj).1
                        · cases hj
                      · cases hj)
                  · cases kF
                · cases kF
              · cases kF
            · rename_i hy
              rw[hy] at B2
              split at kF
              · rename_i b2 kv
                cases kF
                simp only[dQ] at B2
                rw[B2,kv]
                have JB:b2.data.size=b2.size:=rfl
                refine⟨(iH b2.data.toList).take (min b2.size n*1),(rN _).take _,by simp[iH,JB],rfl,?_⟩
                simp only[bp,bE]
                congr 1
                apply cF
                simp[iH,List.map_take,List.extract_eq_take_drop]
              · cases kF
            · cases kF
          obtain⟨us,hv,hlen,hl,hf⟩:=key
          have Xm:=hv.length
          obtain⟨f1,f2,f3⟩:=qe hs LJ hb (off:=off) oM hv
          have pL:(ds.take (min m n*P.cellsOf e)).all AV.one=true:=by
            rw[List.all_eq_true] at h1⊢
            exact fun x hx=>h1 x (List.mem_of_mem_take hx)
          have np:=run_storeCells_cells (P:=P) b off us 0 w (by simpa using f1) (by simpa using f2) (qM hv pL)
          simp only[Nat.add_zero] at np
          rw[ik ho]
          have e1:=lj ha
          have e2:=lj ht
          subst e1 e2
          simp only[builtin]
          refine iQ ⟨G,.int .i64 ((min m n:Nat):Int),_,_,_,?_,.refl G,f3,by simp[dQ],h3⟩
          have UY:ρ' x=.slice (some ⟨b,off,none⟩) n cap:=hu
          have hf':(bp (P.cellsOf e) (Nat.min m n) (ρ' y)).run P w=.ok us.toArray w:=hf
          simp[Builtin.copy_,run_underlying hT,UY,hl,eu hz,hf',np,goInt]
        · exact h.elim
      · exact h.elim
    · exact h.elim
  · exact h.elim
theorem Pr{ρ:Operand->AV}{ρ':Operand->Value}{K:AV->AS->Prop}{f:Operand}{args:Array Operand}{argTypes:Array TypeId}{o:Oper}(ho:o.op=.call {callee:=.value f,args,argTypes})
    (h:ic P Γ ρ s K (.call {callee:=.value f,args,argTypes})) (hρ:∀x,dQ G (ρ x) (ρ' x)) (hs:eo Γ G s w):iB P Γ G K ((execOp ρ' o).run P w):=by
  have e:(args.toList.map ρ').toArray=args.map ρ':=(by apply cF;simp);have Ri:=dP.of_map hρ args.toList;simp only[ic] at h;have hf:=hρ f;split at h
  · rename_i k first gh hc
    rw[hc] at hf;simp only[dQ] at hf;obtain⟨h1,h2,h3,h4⟩:=h;have h1':first = #[]:=by simpa using h1
    have h2':gh= #[]:=(by simpa using h2);subst h1' h2';have:=CU h3 h4 hs Ri;rw[e] at this;obtain⟨dst,op,type,pos,after,guard⟩:=o;simp only at ho;subst ho;simpa[execOp,resolve,hf,Deferred.ofValue,invoke] using this
  · rename_i k gh hc;rw[hc] at hf;simp only[dQ] at hf;obtain⟨vs,hf,hv⟩:=hf;obtain⟨h3,h4⟩:=h;have:=CU h3 h4 hs (Ri.append hv);have e2:(args.toList.map ρ'++vs).toArray=args.map ρ'++vs.toArray:=(by apply cF;simp);rw[e2] at this;obtain⟨dst,op,type,pos,after,guard⟩:=o;simp only at ho;subst ho;simpa[execOp,resolve,hf,Deferred.ofValue,invoke] using this
  · exact h.elim
theorem Me{ρ:Operand->AV}{ρ':Operand->Value}{K:AV->AS->Prop}(o:Oper)(h:ic P Γ ρ s K o.op)(hρ:∀x,dQ G (ρ x) (ρ' x))(hs:eo Γ G s w):iB P Γ G K ((execOp ρ' o).run P w):=by
  cases lJ:o.op<;>rw[lJ] at h<;>try(simp only[ic] at h;done)
  case load T x=>exact Pp lJ h hρ hs
  case store T x y=>exact Mb lJ h hρ hs
  case alloc T=>exact Mc lJ h hs
  case box T x=>exact Rh lJ h hρ hs
  case makeSlice T x y=>exact CV lJ h hρ hs
  case call c=>
    obtain⟨callee,args,argTypes⟩:=c;cases callee with
    |value f=>exact Pr lJ h hρ hs
    |invoke r m=>simp only[ic] at h
    |builtin b=>
      cases b<;>try(simp only[ic] at h;done)
      case append=>exact JA lJ h hρ hs
      case copy=>exact Pq lJ h hρ hs
theorem ph{ρ:Operand->AV}{ρ':Operand->Value}{K:AV->AS->Prop}(o:Oper)(h:fS P Γ ρ s K o.op)(hρ:∀x,dQ G (ρ x) (ρ' x))(hs:eo Γ G s w):iB P Γ G K ((execOp ρ' o).run P w):=by
  unfold fS at h;split at h
  · rename_i r hr;obtain⟨G',v,w',h1,h2,h3,h4⟩:=Ma o hr hρ hs;rw[h1];exact⟨G',r,s,h2,h3,h4,h⟩
  · exact Me o h hρ hs
abbrev Env:=Nat->AV
def ef(Γ:Nat->List AV)(E:Env):Operand->AV
  |.tmp t=>E t
  |.const v=>.v v
  |.global g=>.ij (Γ g)
  |.func f=>.v (.func (.func f) #[] #[])
structure Rel(Γ:Nat->List AV)(N:Nat)(G:Gh)(E:Env)(s:AS)(a:Act)(w:World):Prop where
  st:eo Γ G s w
  size:a.tmps.size=N
  tmps:∀i,dQ G (E i) (a.tmps.getD i undef)
  defers:a.defers=G.df
theorem Rel.eval{N:Nat}{E:Env}{a:Act}(h:Rel Γ N G E s a w)(x:Operand):dQ G (ef Γ E x) (a.eval x):=by
  cases x with
  |tmp t=>exact h.tmps t
  |const v=>simp[ef,Act.eval,dQ]
  |global g=>
    obtain⟨vs,h1,h2⟩:=h.st.nE g;simp only[ef,Act.eval,dQ];exact⟨g,0,vs,rfl,h1,h2⟩
  |func f=>simp[ef,Act.eval,dQ]
def eR(E:Env):Option Tmp->AV->Env
  |some d,v=>dY E d v
  |none,_=>E
theorem Rel.put{N:Nat}{E:Env}{a:Act}{G':Gh}{s':AS}{w':World}{r:AV}{v:Value}(h:Rel Γ N G E s a w)(hle:G.le G')(hs:eo Γ G' s' w')(hv:dQ G' r v){dst:Option Tmp}(hd:∀d,dst=some d->d<N):
    Rel Γ N G' (eR E dst r) s' (a.put dst v) w':=by
  cases dst with
  |none=>exact⟨hs,h.size,fun i=>dQ.mono hle _ _ (h.tmps i),h.defers.trans hle.df.symm⟩
  |some d=>
    refine⟨hs,by simp[Act.put,h.size],fun i=>?_,h.defers.trans hle.df.symm⟩;simp only[eR,dY,Act.put];split
    · rename_i e;subst e;have :i<a.tmps.size:=(by rw[h.size];exact hd i rfl);simpa[Array.getD,this] using hv
    · rename_i e;have:=dQ.mono hle _ _ (h.tmps i);simp only[aR] at this⊢;rw[Array.getElem?_setIfInBounds_ne oM];exact this
end Go.AM
namespace Go.AM
open Go Go.RowKit
theorem xbn{P:Program}{ρ:Operand->Value}{o:Oper}{w W:World}{v:Value}(h:(execOp ρ o).run P w=.ok (.value v) W):∀c,o.op≠.defer c:=by
  intro c hc;simp only[execOp,hc,bo] at h;cases hh:(resolve ρ c o.type).run P w<;>simp[hh,Result.andThen] at h
def yq(R:Option Nat):Fence:={bY with round:=R}
variable{rd:Option Nat}{P:Program}{Γ:Nat->List AV}{G:Gh}{s:AS}{w:World}
theorem yr{e:TypeId}{x:AV}{m:Nat}{ds:List AV}{K K':AV->AS->Prop}(hk:∀r s',K r s'->K' r s')(h:lB P e x m ds s K):lB P e x m ds s K':=by
  unfold lB at *
  split at h
  · split at h
    · rename_i hm;rw[if_pos hm];exact hk _ _ h
    · rename_i hm;rw[if_neg hm];exact⟨h.1,h.2.1,fun t ht=>hk _ _ (h.2.2 t ht)⟩
  · split at h
    · rename_i hm;simp only[if_pos hm];exact hk _ _ h
    · rename_i hm;simp only[if_neg hm];obtain⟨h1,h2,h3,h4,h5⟩:=h;refine⟨h1,h2,h3,h4,?_⟩;split at h5
      · exact fun t ht=>hk _ _ (h5 t ht)
      · exact fun t ht=>hk _ _ (h5 t ht)
      · exact⟨h5.1,hk _ _ h5.2⟩
      · exact h5.elim
      · exact h5.elim
  · exact h
theorem Mf{e xT:TypeId}{x y:AV}{K K':AV->AS->Prop}(hk:∀r s',K r s'->K' r s')(h:Jx P e xT x y s K):Jx P e xT x y s K':=by
  obtain⟨n,xS,k,sz,m,cs,sp,h1,h2,h3,h4,h5,h6,h7,h8,h9,ha⟩:=h;exact⟨n,xS,k,sz,m,cs,sp,h1,h2,h3,h4,h5,h6,h7,h8,h9,yr hk ha⟩
theorem Ps{ρ:Operand->AV}{K K':AV->AS->Prop}(hk:∀r s',K r s'->K' r s'):∀{op:Op},ic P Γ ρ s K op->ic P Γ ρ s K' op:=by
  intro op h;cases op<;>try(simp only[ic] at h;done)
  case load T x=>
    simp only[ic] at h⊢;split at h
    · split at h
      · refine⟨h.1,?_⟩;have h2:=h.2;split at h2
        · exact hk _ _ h2
        · exact h2
      · exact h
    · exact h
  case store T x y=>
    simp only[ic] at h⊢;split at h
    · split at h
      · exact⟨h.1,h.2.1,h.2.2.1,h.2.2.2.1,hk _ _ h.2.2.2.2⟩
      · exact h
    · exact h
  case alloc T=>
    simp only[ic] at h⊢;split at h
    · exact fun o ho=>hk _ _ (h o ho)
    · exact h
  case box T x=>
    simp only[ic] at h⊢;exact fun o ho=>hk _ _ (h o ho)
  case makeSlice T x y=>
    simp only[ic] at h⊢;split at h
    · split at h
      · obtain⟨h1,h2,h3,h4,h5,h6,h7⟩:=h;exact⟨h1,h2,h3,h4,h5,h6,fun o ho=>hk _ _ (h7 o ho)⟩
      · exact h
    · exact h
  case call c=>
    obtain⟨callee,args,argTypes⟩:=c;cases callee with
    |value f=>
      simp only[ic] at h⊢;split at h
      · exact⟨h.1,h.2.1,h.2.2.1,h.2.2.2.mono hk⟩
      · exact⟨h.1,h.2.mono hk⟩
      · exact h
    |invoke r m=>simp only[ic] at h
    |builtin b=>
      cases b<;>try(simp only[ic] at h;done)
      case append=>
        simp only[ic] at h⊢;split at h
        · split at h
          · split at h
            · exact⟨h.1,h.2.1,h.2.2.1,yr hk h.2.2.2⟩
            · exact Mf hk h
          · exact h
        · exact h
      case copy=>
        simp only[ic] at h⊢;split at h
        · split at h
          · split at h
            · split at h
              · exact⟨h.1,h.2.1,h.2.2.1,hk _ _ h.2.2.2⟩
              · exact h
            · exact h
          · exact h
        · exact h
theorem oE{ρ:Operand->AV}{K K':AV->AS->Prop}(hk:∀r s',K r s'->K' r s'){op:Op}(h:fS P Γ ρ s K op):fS P Γ ρ s K' op:=by
  unfold fS at *
  split at h
  · exact hk _ _ h
  · exact Ps hk h
def tm(ops:Array Oper)(j:Nat):Option Tmp:=(ops[j]?).bind (·.dst)
def AX(P:Program)(Γ:Nat->List AV)(N:Nat)(ops:Array Oper):List Oper->(Env->AS->Prop)->Env->AS->Prop
  |[],K,E,s=>K E s
  |o::rest,K,E,s=>
    (∀d,o.dst=some d->d<N)∧
    match o.guard with
    |none=>fS P Γ (ef Γ E) s (fun r s'=>AX P Γ N ops rest K (eR E o.dst r) s') o.op
    |some (j,want)=>
      match tm ops j with
      |none=>False
      |some d=>
        match E d with
        |.v (.bool t)=>
          if t=want then fS P Γ (ef Γ E) s (fun r s'=>AX P Γ N ops rest K (eR E o.dst r) s') o.op
          else AX P Γ N ops rest K (eR E o.dst (.v undef)) s
        |.v (.tuple _)=>AX P Γ N ops rest K (eR E o.dst (.v undef)) s
        |_=>False
theorem gi{N:Nat}{ops:Array Oper}:∀(L:List Oper){K K':Env->AS->Prop}{E:Env}{s:AS},(∀E s,K E s->K' E s)->AX P Γ N ops L K E s->AX P Γ N ops L K' E s
  |[],K,K',E,s,hk,h=>hk _ _ h
  |o::L,K,K',E,s,hk,h=>by
    simp only[AX] at h⊢;refine⟨h.1,?_⟩;have h:=h.2;split at h
    · exact oE (fun r s' h=>gi L hk h) h
    · split at h
      · exact h
      · split at h
        · split at h
          · rename_i ht;rw[if_pos ht];exact oE (fun r s' h=>gi L hk h) h
          · rename_i ht;rw[if_neg ht];exact gi L hk h
        · exact gi L hk h
        · exact h
def fT(L:List Oper):List Nat:=L.filterMap (·.dst)
theorem fR{E:Env}{dst:Option Tmp}{r:AV}{i:Nat}(h:dst≠some i):eR E dst r i=E i:=by
  cases dst with
  |none=>rfl
  |some d=>
    have :i≠d:=fun e=>h (by rw[e]);simp[eR,dY,this]
theorem ja{N:Nat}{ops:Array Oper}:∀(L:List Oper){K:Env->AS->Prop}{E:Env}{s:AS},AX P Γ N ops L K E s->AX P Γ N ops L (fun E' s'=>K E' s'∧∀i,i∉fT L->E' i=E i) E s
  |[],K,E,s,h=>⟨h,fun _ _=>rfl⟩
  |o::L,K,E,s,h=>by
    simp only[AX] at h⊢;refine⟨h.1,?_⟩;have h:=h.2;have step:∀(r:AV)(s':AS),AX P Γ N ops L K (eR E o.dst r) s'->AX P Γ N ops L (fun E' s'=>K E' s'∧∀i,i∉fT (o::L)->E' i=E i) (eR E o.dst r) s':=by
      intro r s' h;refine gi L (fun E' s' hE=>⟨hE.1,fun i hi=>?_⟩) (ja L h);have h1:i∉fT L:=fun hm=>hi (by
        simp only[fT,List.filterMap_cons] at hm⊢;split
        · exact hm
        · exact aQ _ hm)
      have h2:o.dst≠some i:=fun e=>hi (by simp[fT,List.filterMap_cons,e]);rw[hE.2 i h1,fR h2]
    split at h
    · exact oE step h
    · split at h
      · exact h
      · split at h
        · split at h
          · rename_i ht;rw[if_pos ht];exact oE step h
          · rename_i ht;rw[if_neg ht];exact step _ _ h
        · exact step _ _ h
        · exact h
theorem Oper.sF{N:Nat}{E:Env}{a:Act}{o:Oper}{K:AV->AS->Prop}{next:Act->World->Prop}{Q:Exit->Act->World->Prop}(hr:Rel Γ N G E s a w)(hd:∀d,o.dst=some d->d<N)
    (h:iB P Γ G K ((execOp a.eval o).run P w)) (hn:∀G' r s' a' w',G.le G'->Rel Γ N G' (eR E o.dst r) s' a' w'->K r s'->next a' w'):o.wpIn (yq rd) 0 P a w next Q:=by
  refine⟨fun _ _=>trivial,?_⟩;have hnd:∀c,o.op≠.defer c:=by
    intro c hc;simp only[execOp,hc,bo] at h;cases hh:(resolve a.eval c o.type).run P w<;>simp[hh,iB,Result.andThen] at h
  rw[Oper.semAt_eq _ _ _ hnd];generalize (execOp a.eval o).run P w=R at h;cases R with
  |ok n w'=>
    cases n<;>simp only[iB] at h;case value v=>
      obtain⟨G',r,s',h1,h2,h3,h4⟩:=h;simp only[dG];exact hn G' r s' _ _ h1 (hr.put h1 h2 h3 hd) h4
    case skip=>
      obtain⟨G',s',h1,h2,h3⟩:=h;simp only[dG];exact hn G' (.v undef) s' _ _ h1 (hr.put h1 h2 (by simp[dQ]) hd) h3
    case enter f args=>
      simp only[dG];refine⟨(fun e=>by cases e),CallsIn.mono (F:=bY) (callsIn_wide.2 h) ?_⟩;rintro e z8 ⟨G',r,v,s',rfl,h1,h2,h3,h4⟩;exact hn G' r s' _ _ h1 (hr.put h1 h2 h3 hd) h4
  |halt x w'=>simp only[iB] at h
theorem jq{o:Oper}{y:Nat->Option Bool}(h:o.guard=none):de o y=true:=by simp[de,h]
theorem CW{N:Nat}{E:Env}{a:Act}{ops:Array Oper}{j d:Nat}{t:Bool}(hr:Rel Γ N G E s a w)(hj:tm ops j=some d)(hE:E d=.v (.bool t)):yielded ops a.tmps j=some t:=by
  have:=hr.tmps d;rw[hE] at this;simp only[dQ] at this;unfold tm at hj;simp only[yielded,hj,Option.bind_some];rw[aR] at this;cases hh:a.tmps[d]? with
  |none=>rw[hh] at this;simp[undef] at this
  |some v=>rw[hh] at this;simp at this;rw[this]
theorem yt{N:Nat}{E:Env}{a:Act}{ops:Array Oper}{j d:Nat}{c:Array Value}(hr:Rel Γ N G E s a w)(hj:tm ops j=some d)(hE:E d=.v (.tuple c)):yielded ops a.tmps j=none:=by
  have:=hr.tmps d;rw[hE] at this;simp only[dQ] at this;unfold tm at hj;simp only[yielded,hj,Option.bind_some];rw[aR] at this;cases hh:a.tmps[d]? with
  |none=>rfl
  |some v=>rw[hh] at this;simp at this;rw[this]
theorem l9{N:Nat}{E:Env}{a:Act}{ops:Array Oper}{i:Nat}{o:Oper}{L:List Oper}{K:Env->AS->Prop}{Q:Exit->Act->World->Prop}{next:Act->World->Prop}(ho:ops[i]? =some o)
    (h:AX P Γ N ops (o::L) K E s) (hr:Rel Γ N G E s a w) (hn:∀G' E' s' a' w',G.le G'->Rel Γ N G' E' s' a' w'->AX P Γ N ops L K E' s'->next a' w'):wpOpIn (yq rd) 0 P ops Q i next a w:=by
  simp only[AX] at h;obtain⟨hd,h⟩:=h;simp only[wpOpIn,ho];split at h
  · rename_i hg;rw[if_pos (jq hg)];exact(Oper.sF hr hd (ph o h hr.eval hr.st) fun G' r s' a' w' h1 h2 h3=>hn G' _ s' a' w' h1 h2 h3)
  · rename_i j want hg;split at h
    · exact h.elim
    · rename_i d hj;split at h
      · rename_i t hE;have hy:=CW hr hj hE;have hw:de o (yielded ops a.tmps)=(t==want):=(by simp[de,hg,hy]);split at h
        · rename_i ht;rw[if_pos (by rw[hw];simpa using ht)];exact(Oper.sF hr hd (ph o h hr.eval hr.st) fun G' r s' a' w' h1 h2 h3=>hn G' _ s' a' w' h1 h2 h3)
        · rename_i ht;rw[if_neg (by rw[hw];simpa using ht)];exact⟨fun _ _=>trivial,hn G _ s _ _ (.refl G) (hr.put (.refl G) hr.st (by simp[dQ]) hd) h⟩
      · rename_i c hE;have hy:=yt hr hj hE;have hw:de o (yielded ops a.tmps)=false:=(by simp[de,hg,hy]);rw[if_neg (by rw[hw];simp)];exact⟨fun _ _=>trivial,hn G _ s _ _ (.refl G) (hr.put (.refl G) hr.st (by simp[dQ]) hd) h⟩
      · exact h.elim
theorem qN{N:Nat}{ops:Array Oper}{Q:Exit->Act->World->Prop}{K:Env->AS->Prop}:∀(L:List Oper)(I:List Nat){G:Gh}{E:Env}{s:AS}{a:Act}{w:World},I.map (ops[·]?)=L.map some->AX P Γ N ops L K E s->Rel Γ N G E s a w->
    (∀G' E' s' a' w',G.le G'->Rel Γ N G' E' s' a' w'->K E' s'->Q .normal a' w')->wpOpsIn (yq rd) 0 P ops Q I a w
  |[],I,G,E,s,a,w,hI,h,hr,hq=>by
    have :I=[]:=(by simpa using hI);subst this;exact hq G E s a w (.refl G) hr h
  |o::L,I,G,E,s,a,w,hI,h,hr,hq=>by
    cases I with
    |nil=>simp at hI
    |cons i I=>
      simp only[aG,cM] at hI;rw[wpOpsIn_cons];exact l9 hI.1 h hr fun G' E' s' a' w' h1 h2 h3=>qN L I hI.2 h3 h2 fun ya mW mb CX z8 k1 k2 k3=>hq ya mW mb CX z8 (h1.trans k1) k2 k3
def writes:Code->List Nat
  |.region _ ops _=>fT ops.toList
  |.seq a b=>writes a++writes b
  |.cond _ a b=>writes a++writes b
  |.block _ a=>writes a
  |.loop a=>writes a
  |.scope a=>writes a
  |.rangeFunc _ ps a b=>ps.toList++writes a++writes b
  |_=>[]
def fY(P:Program)(Γ:Nat->List AV)(N:Nat)(c:Code)(Q:Exit->Env->AS->Prop)(E:Env)(s:AS):Prop:=
  ∀(G:Gh)(a:Act)(w:World),Rel Γ N G E s a w->∀{rd:Option Nat},
    c.wpIn (yq rd) 0 P (fun e a' w'=>∃G' E' s',G.le G'∧Rel Γ N G' E' s' a' w'∧Q e E' s'∧∀i,i∉writes c->E' i=E i) a w
section rules
variable{N:Nat}{E:Env}{Q:Exit->Env->AS->Prop}
theorem dX(h:Q .normal E s):fY P Γ N .skip Q E s:=fun G a w hr=>wpIn_skip ⟨G,E,s,.refl G,hr,h,fun _ _=>rfl⟩
theorem ep{id:Nat}(h:Q (.exit id) E s):fY P Γ N (.exit id) Q E s:=fun G a w hr=>wpIn_exit ⟨G,E,s,.refl G,hr,h,fun _ _=>rfl⟩
theorem eF(h:Q .ret E s):fY P Γ N .ret Q E s:=fun G a w hr=>wpIn_ret ⟨G,E,s,.refl G,hr,h,fun _ _=>rfl⟩
def dJ(next:Env->AS->Prop)(Q:Exit->Env->AS->Prop):Exit->Env->AS->Prop
  |.normal,E,s=>next E s
  |e,E,s=>Q e E s
theorem oX{x y:Code}(h:fY P Γ N x (dJ (fY P Γ N y Q) Q) E s):fY P Γ N (.seq x y) Q E s:=by
  intro G a w hr;refine wpIn_seq (wpIn_mono (h G a w hr) ?_);rintro e a' w' ⟨G',E',s',h1,h2,h3,h4⟩;have hw:∀i,i∉writes (.seq x y)->E' i=E i:=fun i hi=>h4 i (fun hm=>hi (by simp[writes,hm]));cases e<;>simp only[Exit.then,dJ] at h3⊢;case normal=>
    refine wpIn_mono (h3 G' a' w' h2) ?_;rintro e CX z8 ⟨ya,mW,mb,k1,k2,k3,k4⟩;exact⟨ya,mW,mb,h1.trans k1,k2,k3,fun i hi=>by rw[k4 i (fun hm=>hi (by simp[writes,hm])),hw i hi]⟩
  all_goals exact⟨G',E',s',h1,h2,h3,hw⟩
theorem yu{c:Operand}{x y:Code}{t:Bool}(hc:ef Γ E c=.v (.bool t))(h:fY P Γ N (if t=true then x else y) Q E s):fY P Γ N (.cond c x y) Q E s:=by
  intro G a w hr;have:=hr.eval c;rw[hc] at this;simp only[dQ] at this;intro rd;refine wpIn_cond this ?_;cases t
  · refine wpIn_mono (h G a w hr) ?_;rintro e a' w' ⟨G',E',s',h1,h2,h3,h4⟩;exact⟨G',E',s',h1,h2,h3,fun i hi=>h4 i (fun hm=>hi (by simp at hm;simp[writes,hm]))⟩
  · refine wpIn_mono (h G a w hr) ?_;rintro e a' w' ⟨G',E',s',h1,h2,h3,h4⟩;exact⟨G',E',s',h1,h2,h3,fun i hi=>h4 i (fun hm=>hi (by simp at hm;simp[writes,hm]))⟩
theorem wD{c:Operand}{x y:Code}(hc:ef Γ E c=.v (.bool true))(h:fY P Γ N x Q E s):fY P Γ N (.cond c x y) Q E s:=yu hc h
theorem lK{c:Operand}{x y:Code}(hc:ef Γ E c=.v (.bool false))(h:fY P Γ N y Q E s):fY P Γ N (.cond c x y) Q E s:=yu hc h
theorem CY{c:Operand}{x y:Code}{t:Bool}(hc:ef Γ E c=.v (.bool t))(h1:t=true->fY P Γ N x Q E s)(h2:t=false->fY P Γ N y Q E s):fY P Γ N (.cond c x y) Q E s:=by
  cases t
  · exact yu hc (h2 rfl)
  · exact yu hc (h1 rfl)
def dn(id:Nat)(Q:Exit->Env->AS->Prop):Exit->Env->AS->Prop
  |.exit id',E,s=>if id'=id then Q .normal E s else Q (.exit id') E s
  |e,E,s=>Q e E s
theorem dH{id:Nat}{c:Code}(h:fY P Γ N c (dn id Q) E s):fY P Γ N (.block id c) Q E s:=by
  intro G a w hr;refine wpIn_block (wpIn_mono (h G a w hr) ?_);rintro e a' w' ⟨G',E',s',h1,h2,h3,h4⟩;cases e<;>simp only[Exit.inBlock,dn] at h3⊢;case exit id'=>
    split at h3
    · rename_i YM;rw[if_pos YM];exact⟨G',E',s',h1,h2,h3,h4⟩
    · rename_i YM;rw[if_neg YM];exact⟨G',E',s',h1,h2,h3,h4⟩
  all_goals exact⟨G',E',s',h1,h2,h3,h4⟩
theorem tn{id:Nat}{ops:Array Oper}(h:AX P Γ N ops ops.toList (fun E' s'=>Q .normal E' s') E s):fY P Γ N (.region id ops false) Q E s:=by
  intro G a w hr;refine wpIn_region (qN ops.toList _ ?_ (ja _ h) hr ?_)
  · apply br;intro i;simp only[List.getElem?_map];by_cases hi:i<ops.size
    · simp[hi]
    · simp[hi]
  · intro G' E' s' a' w' h1 h2 h3;exact⟨G',E',s',h1,h2,h3.1,h3.2⟩
theorem exists_least(p:Nat->Prop)(h:∃n,p n):∃n,p n∧∀m,p m->n<=m:=by
  obtain⟨n,hn⟩:=h;induction n using Nat.strongRecOn with
  |_ n ih=>
    by_cases hm:∃m,m<n∧p m
    · obtain⟨m,h1,h2⟩:=hm;exact ih m h1 h2
    · exact⟨n,hn,fun m h=>Nat.le_of_not_lt fun fB=>hm ⟨m,fB,h⟩⟩
theorem dU{c:Code}(I:Env->AS->Prop)(μ:Env->AS->Nat)(h0:I E s)
    (round:∀E' s',I E' s'->(∀i,i∉writes c->E' i=E i)->fY P Γ N c (dJ (fun mW mb=>I mW mb∧μ mW mb<μ E' s') Q) E' s'):fY P Γ N (.loop c) Q E s:=by
  intro G a w hr;let Φ:Act->World->Gh->Env->AS->Prop:=fun a w G' E' s'=>G.le G'∧Rel Γ N G' E' s' a w∧I E' s'∧∀i,i∉writes c->E' i=E i;let C:Act->World->Nat->Prop:=fun a w n=>∃G' E' s',Φ a w G' E' s'∧μ E' s'=n;open Classical in
  let ν:Act->World->Nat:=fun a w=>if h:∃n,C a w n then cz (exists_least _ h) else 0
  intro rd;refine wpIn_loop (fun a w=>∃n,C a w n) ν ⟨_,G,E,s,⟨.refl G,hr,h0,fun _ _=>rfl⟩,rfl⟩ ?_;intro a1 w1 hI;have hν:ν a1 w1=cz (exists_least _ hI):=(by simp only[ν];rw[dif_pos hI]);obtain⟨G1,E1,s1,⟨g1,g2,g3,g4⟩,g5⟩:=(ct (exists_least _ hI)).1;refine wpIn_mono (round E1 s1 g3 g4 G1 a1 w1 g2) ?_;rintro e a' w' ⟨G',E',s',h1,h2,h3,h4⟩;have hw:∀i,i∉writes c->E' i=E i:=(fun i hi=>by rw[h4 i hi,g4 i hi]);cases e<;>simp only[Exit.then,dJ] at h3⊢;case normal=>
    have hC:∃n,C a' w' n:=⟨_,G',E',s',⟨g1.trans h1,h2,h3.1,hw⟩,rfl⟩;refine⟨hC,?_⟩;have :ν a' w'=cz (exists_least _ hC):=(by simp only[ν];rw[dif_pos hC]);rw[this,hν,<-g5];exact Nat.lt_of_le_of_lt ((ct (exists_least _ hC)).2 _ ⟨G',E',s',⟨g1.trans h1,h2,h3.1,hw⟩,rfl⟩) h3.2
  all_goals exact⟨G',E',s',g1.trans h1,h2,h3,hw⟩
end rules
end Go.AM
namespace Go.AM
open Go Go.RowKit
variable{P:Program}{Γ:Nat->List AV}{G:Gh}{s:AS}{w:World}
theorem tp{ρ ρ':Operand->AV}{op:Op}(h:∀x∈op.operands,ρ x=ρ' x):gG P ρ op=gG P ρ' op:=by
  have Xo:∀ps:Array (Nat×Operand),(∀x∈(ps.toList.map (·.2)).toArray,ρ x=ρ' x)->
      (ps.toList.map fun p=>(p.1,ρ p.2))=(ps.toList.map fun p=>(p.1,ρ' p.2)):=fun ps hp=>
    bI fun p hm=>by rw[hp p.2 (by simpa using⟨p.1,by simpa using hm⟩)]
  cases op<;>simp only[Op.operands] at h<;>simp only[gG];case build T ps=>rw[Xo ps h]
  case buildSlice T n ps=>rw[Xo ps h]
  case makeFunc fn first captured=>
    cases fn<;>simp only;rw[bI (l:=captured.toList) fun x hx=>h x (by simp;exact .inr (by simpa using hx))]
  case call c=>
    obtain⟨callee,args,argTypes⟩:=c;cases callee<;>simp only;rw[bI (l:=args.toList) fun x hx=>h x (by simp[Call.operands];simpa using hx)]
  case slice t x lo hi mx=>cases lo<;>cases hi<;>cases mx<;>simp_all
  all_goals(first |rfl|(simp_all;done))
theorem Mg{ρ ρ':Operand->AV}{op:Op}{K:AV->AS->Prop}(h:∀x∈op.operands,ρ x=ρ' x):ic P Γ ρ s K op↔ic P Γ ρ' s K op:=by
  cases op<;>simp only[Op.operands] at h<;>simp only[ic];case call c=>
    obtain⟨callee,args,argTypes⟩:=c;have ha:args.toList.map ρ=args.toList.map ρ':=bI (l:=args.toList) fun x hx=>h x (by
      have :x∈args:=(by simpa using hx);simp[Call.operands,this])
    cases callee with
    |value f=>
      have hf:ρ f=ρ' f:=h f (by simp[Call.operands]);simp only[ic,ha,hf]
    |invoke r m=>simp only[ic]
    |builtin b=>
      cases b<;>simp only[ic];all_goals
        split
        · rename_i x y T xT h1 h2;rw[h1] at ha;simp only[aG,List.map_nil,cM,and_true] at ha;rw[ha.1,ha.2]
        · exact Iff.rfl
  all_goals(first |exact Iff.rfl|(simp_all;done))
theorem rQ{ρ ρ':Operand->AV}{op:Op}{K:AV->AS->Prop}(h:∀x∈op.operands,ρ x=ρ' x):fS P Γ ρ s K op↔fS P Γ ρ' s K op:=by
  unfold fS;rw[tp h];split
  · exact Iff.rfl
  · exact Mg h
section
variable{N:Nat}{ops:Array Oper}
def eZ(P:Program)(Γ:Nat->List AV)(ops:Array Oper)(o:Oper)(E:Env):Option AV:=
  match o.guard with
  |none=>gG P (ef Γ E) o.op
  |some (j,want)=>
    match tm ops j with
    |none=>none
    |some d=>
      match E d with
      |.v (.bool t)=>if t=want then gG P (ef Γ E) o.op else some (.v undef)
      |.v (.tuple _)=>some (.v undef)
      |_=>none
def u7(P:Program)(Γ:Nat->List AV)(N:Nat)(ops:Array Oper):List (Oper×Bool)->(Env->AS->Prop)->Env->AS->Prop
  |[],K,E,s=>K E s
  |(o,yb)::rest,K,E,s=>
    if yb=true then AX P Γ N ops [o] (u7 P Γ N ops rest K) E s
    else(∀d,o.dst=some d->d<N)∧match eZ P Γ ops o E with |some v=>u7 P Γ N ops rest K (eR E o.dst v) s|none=>False
theorem yv:∀(L:List (Oper×Bool)){K K':Env->AS->Prop}{E:Env}{s:AS},(∀E s,K E s->K' E s)->u7 P Γ N ops L K E s->u7 P Γ N ops L K' E s
  |[],K,K',E,s,hk,h=>hk _ _ h
  |(o,yb)::L,K,K',E,s,hk,h=>by
    simp only[u7] at h⊢;split at h
    · rename_i he;rw[if_pos he];exact gi _ (fun E s h=>yv L hk h) h
    · rename_i he;rw[if_neg he];refine⟨h.1,?_⟩;have h:=h.2;split at h
      · exact yv L hk h
      · exact h
theorem Pt{E:Env}{dst:Option Tmp}{v:AV}{x:Operand}(h:∀d,dst=some d->x≠.tmp d):ef Γ (eR E dst v) x=ef Γ E x:=by
  cases x with
  |tmp t=>
    simp only[ef];exact fR fun e=>h t e rfl
  |const v=>rfl
  |global g=>rfl
  |func f=>rfl
theorem qA{E:Env}{d d':Option Tmp}{v v':AV}(h:∀x,d=some x->d'≠some x):eR (eR E d v) d' v'=eR (eR E d' v') d v:=by
  cases d with
  |none=>rfl
  |some x=>
    cases d' with
    |none=>rfl
    |some y=>
      have :y≠x:=fun e=>h x rfl (by rw[e]);funext i;simp only[eR,dY];by_cases h1:i=y
      · subst h1;simp[this]
      · simp[h1]
theorem Fb{o:Oper}{d:Tmp}(h:d∉o.looksAt ops):∀x∈o.op.operands,x≠.tmp d:=by
  intro x hx e;subst e;exact h (List.mem_append_left _ (cw.2 ⟨.tmp d,by simpa using hx,rfl⟩))
theorem rR{o:Oper}{d:Tmp}{j:Nat}{want:Bool}(h:d∉o.looksAt ops)(hg:o.guard=some (j,want)):tm ops j≠some d:=by
  intro e;refine h (List.mem_append_right _ ?_);simp only[hg];unfold tm at e;rw[e];simp
theorem oF{o:Oper}{E E':Env}(h:∀d,d∈o.looksAt ops->E' d=E d):eZ P Γ ops o E'=eZ P Γ ops o E:=by
  have lJ:∀x∈o.op.operands,ef Γ E' x=ef Γ E x:=fun x hx=>by
    cases x with
    |tmp t=>exact h t (List.mem_append_left _ (cw.2 ⟨.tmp t,by simpa using hx,rfl⟩))
    |const v=>rfl
    |global g=>rfl
    |func f=>rfl
  unfold eZ;split
  · exact tp lJ
  · rename_i j want hg;split
    · rfl
    · rename_i d hj;have :E' d=E d:=h d (by
        by_cases hd:d∈o.looksAt ops
        · exact hd
        · exact absurd hj (rR hd hg))
      rw[this];split
      · split
        · exact tp lJ
        · rfl
      · rfl
      · rfl
theorem u9{o:Oper}{E:Env}{K:Env->AS->Prop}{dst:Option Tmp}{v:AV}(hl:∀d,dst=some d->d∉o.looksAt ops)(hd:∀d,dst=some d->o.dst≠some d):
    AX P Γ N ops [o] K (eR E dst v) s↔AX P Γ N ops [o] (fun E' s'=>K (eR E' dst v) s') E s:=by
  have lJ:∀x∈o.op.operands,ef Γ (eR E dst v) x=ef Γ E x:=fun x hx=>Pt fun d h1 h2=>Fb (hl d h1) x hx h2;have hc:∀r,eR (eR E dst v) o.dst r=eR (eR E o.dst r) dst v:=fun r=>qA fun x h1 h2=>hd x h1 h2;simp only[AX];refine and_congr_right fun _=>?_;simp only[hc];split
  · exact rQ lJ
  · rename_i j want hg;split
    · exact Iff.rfl
    · rename_i d hj;have hE:eR E dst v d=E d:=fR fun e=>rR (hl d e) hg hj;rw[hE];split
      · split
        · exact rQ lJ
        · exact Iff.rfl
      · exact Iff.rfl
      · exact Iff.rfl
theorem gu{o:Oper}{E:Env}{K:Env->AS->Prop}(h:AX P Γ N ops [o] K E s):AX P Γ N ops [o] (fun E' s'=>K E' s'∧∀i,o.dst≠some i->E' i=E i) E s:=by
  refine gi _ (fun E' s' hE=>⟨hE.1,fun i hi=>hE.2 i ?_⟩) (ja [o] h);cases hd:o.dst with
  |none=>simp[fT,hd]
  |some d=>
    have :i≠d:=fun e=>hi (by rw[hd,e]);simp[fT,hd,this]
theorem Mh{o:Oper}{yb:Bool}{L:List (Oper×Bool)}{E:Env}{K:Env->AS->Prop}(h:u7 P Γ N ops ((o,yb)::L) K E s):AX P Γ N ops [o] (u7 P Γ N ops L K) E s:=by
  simp only[u7] at h;split at h
  · exact h
  · simp only[AX];refine⟨h.1,?_⟩;have h:=h.2;unfold eZ at h;cases hg:o.guard with
    |none=>
      simp only[hg] at h;cases hv:gG P (ef Γ E) o.op with
      |none=>simp[hv] at h
      |some v=>simp only[hv] at h;simp only[fS,hv];exact h
    |some p=>
      obtain⟨j,want⟩:=p;simp only[hg] at h;cases hj:tm ops j with
      |none=>simp[hj] at h
      |some d=>
        simp only[hj] at h⊢;split
        · rename_i t hE;simp only[hE] at h;split
          · rename_i ht;simp only[if_pos ht] at h;cases hv:gG P (ef Γ E) o.op with
            |none=>simp[hv] at h
            |some v=>simp only[hv] at h;simp only[fS,hv];exact h
          · rename_i ht;simp only[if_neg ht] at h;exact h
        · rename_i c hE;simp only[hE] at h;exact h
        · rename_i gP Aa;split at h
          · rename_i v hv;split at hv
            · rename_i t hE;exact absurd hE (gP t)
            · rename_i c hE;exact absurd hE (Aa c)
            · cases hv
          · exact h
theorem nz{o:Oper}{E:Env}{a:Act}{K:Env->AS->Prop}(h:AX P Γ N ops [o] K E s)(hr:Rel Γ N G E s a w):
    ∃G' E' s' a' w',Rel Γ N G' E' s' a' w'∧K E' s'∧∀i,o.dst≠some i->E' i=E i:=by
  have h':=gu h;clear h;simp only[AX] at h';obtain⟨hd,h⟩:=h';have run:fS P Γ (ef Γ E) s (fun r s'=>K (eR E o.dst r) s'∧∀i,o.dst≠some i->eR E o.dst r i=E i) o.op->∃G' E' s' a' w',Rel Γ N G' E' s' a' w'∧K E' s'∧∀i,o.dst≠some i->E' i=E i:=by
    intro h;have:=ph o h hr.eval hr.st;generalize (execOp a.eval o).run P w=R at this;cases R with
    |ok n w'=>
      cases n<;>simp only[iB] at this;case value v=>
        obtain⟨G',r,s',h1,h2,h3,h4⟩:=this;exact⟨G',_,s',_,_,hr.put h1 h2 h3 hd,h4.1,h4.2⟩
      case skip=>
        obtain⟨G',s',h1,h2,h3⟩:=this;exact⟨G',_,s',_,_,hr.put (v:=undef) h1 h2 (by simp[dQ]) hd,h3.1,h3.2⟩
      case enter f args=>
        obtain⟨e,z8,fr,⟨G',r,v,s',_,h1,h2,h3,h4⟩,_⟩:=this [];exact⟨G',_,s',_,_,hr.put h1 h2 h3 hd,h4.1,h4.2⟩
    |halt x w'=>simp only[iB] at this
  split at h
  · exact run h
  · split at h
    · exact h.elim
    · split at h
      · split at h
        · exact run h
        · exact⟨G,_,s,_,_,hr.put (v:=undef) (.refl G) hr.st (by simp[dQ]) hd,h.1,h.2⟩
      · exact⟨G,_,s,_,_,hr.put (v:=undef) (.refl G) hr.st (by simp[dQ]) hd,h.1,h.2⟩
      · exact h.elim
def jb(ops:Array Oper)(x y:Oper):Prop:=x.apart ops y=true
theorem CZ{y:Oper}{L2:List (Oper×Bool)}{K:Env->AS->Prop}:∀(L1:List (Oper×Bool)){G:Gh}{E:Env}{s:AS}{a:Act}{w:World},(∀x∈L1,jb ops x.1 y)->u7 P Γ N ops (L1++(y,false)::L2) K E s->Rel Γ N G E s a w->
    (∀d,y.dst=some d->d<N)∧∃v,eZ P Γ ops y E=some v
  |[],G,E,s,a,w,_,h,hr=>by
    simp only[aP,u7,ar,if_false] at h;refine⟨h.1,?_⟩;have h:=h.2;split at h
    · rename_i v hv;exact⟨v,hv⟩
    · exact h.elim
  |(x,ex)::L1,G,E,s,a,w,nG,h,hr=>by
    obtain⟨G',E',s',a',w',xo,hK,hf⟩:=nz (Mh h) hr;obtain⟨h1,v,h2⟩:=CZ L1 (fun x hx=>nG x (aQ _ hx)) hK xo;refine⟨h1,v,?_⟩;rw[<-h2];refine(oF fun d hd=>hf d fun e=>?_).symm;exact(cx (nG (x,ex) sM)).1 d e hd
theorem qP{y:Oper}{L2:List (Oper×Bool)}{K:Env->AS->Prop}{v:AV}:∀(L1:List (Oper×Bool)){E:Env}{s:AS},(∀x∈L1,jb ops x.1 y)->eZ P Γ ops y E=some v->u7 P Γ N ops (L1++(y,false)::L2) K E s->
    u7 P Γ N ops (L1++L2) K (eR E y.dst v) s
  |[],E,s,_,hv,h=>by
    simp only[aP,u7,ar,if_false,hv] at h;exact h.2
  |(x,ex)::L1,E,s,nG,hv,h=>by
    obtain⟨a1,a2,a3⟩:=cx (nG (x,ex) sM);have rH:∀x∈L1,jb ops x.1 y:=fun x hx=>nG x (aQ _ hx);have Rj:∀E':Env,(∀i,x.dst≠some i->E' i=E i)->eZ P Γ ops y E'=some v:=fun E' hE=>by
      rw[oF (E:=E) fun d hd=>hE d fun e=>a1 d e hd,hv]
    simp only[bt,u7] at h⊢;split at h
    · rename_i he;rw[if_pos he];refine(u9 (fun d hd=>a3 d hd) (fun d hd e=>a2 d e hd)).2 ?_;refine gi _ (fun E' s' hE=>?_) (gu h);exact qP L1 rH (Rj E' hE.2) hE.1
    · rename_i he;rw[if_neg he];refine⟨h.1,?_⟩;have h:=h.2;rw[oF (E:=E) fun d hd=>fR fun e=>a3 d e hd];split at h
      · rename_i u hu;simp only[hu];rw[qA (fun d h1 h2=>a2 d h2 h1)];exact qP L1 rH (Rj _ fun i hi=>fR hi) h
      · exact h.elim
theorem wF{y:Oper}{L2:List (Oper×Bool)}{K:Env->AS->Prop}:∀(L1:List (Oper×Bool)){E:Env}{s:AS},(∀x∈L1,jb ops x.1 y∧x.2=false)->u7 P Γ N ops (L1++(y,true)::L2) K E s->
    AX P Γ N ops [y] (u7 P Γ N ops (L1++L2) K) E s
  |[],E,s,_,h=>by simpa only[aP,u7,if_true] using h
  |(x,ex)::L1,E,s,nG,h=>by
    obtain⟨Mi,hex⟩:=nG (x,ex) sM;simp only at hex;subst hex;obtain⟨a1,a2,a3⟩:=cx Mi;have rH:∀x∈L1,jb ops x.1 y∧x.2=false:=fun x hx=>nG x (aQ _ hx);simp only[bt,u7,ar,if_false] at h;obtain⟨h0,h⟩:=h;split at h
    · rename_i v hv;have h1:=wF L1 rH h;have h2:=(u9 (fun d hd=>a1 d hd) (fun d hd=>a2 d hd)).1 h1;refine gi _ (fun E' s' hE=>?_) (gu h2);simp only[bt,u7,ar,if_false];refine⟨h0,?_⟩;rw[oF (E:=E) fun d hd=>hE.2 d fun e=>a3 d e hd,hv];exact hE.1
    · exact h.elim
end
end Go.AM
