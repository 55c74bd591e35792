/- An abstract machine for the model and the rules of its walk, each proved sound over the model; no condition. -/
import Derived.Test.YtbiefppedlodiaaGreatDoorAMp1
import Derived.Laws.IdiomCopy
import Derived.IntWalk
import Derived.OrdersIn
import Derived.ControlIn
set_option linter.unusedSimpArgs false
set_option linter.unusedVariables false
namespace Go.AM
open Go Go.RowKit
variable{P:Program}{Γ:Nat→List AV}{G:Gh}{s:AS}{w:World}
theorem kj{r:AV}{x:Sem Value}(h:∃z,x.run P w=.ok z w∧av G r z)(hs:aQ Γ G s w):
    DU Γ G s r ((do pure (.value (←x)):Sem Next).run P w):=by
  obtain⟨z,h1,h2⟩:=h;exact .same hs (by simp[h1]) h2
theorem AP{r:AV}{x:Sem Value}(h:∃G' z w',x.run P w=.ok z w'∧G.le G'∧aQ Γ G' s w'∧av G' r z):
    DU Γ G s r ((do pure (.value (←x)):Sem Next).run P w):=by
  obtain⟨G',z,w',h1,h2,h3,h4⟩:=h;exact⟨G',z,w',by simp[h1],h2,h3,h4⟩
theorem kE.of_map{ρ:Operand→AV}{ρ':Operand→Value}(h:∀x,av G (ρ x) (ρ' x)):∀(o:Option Operand),kE G (o.map ρ) (o.map ρ')
  |.none=>.none
  |.some x=>.some (h x)
theorem ar.of_map{ρ:Operand→AV}{ρ':Operand→Value}(h:∀x,av G (ρ x) (ρ' x)):∀(l:List Operand),ar G (l.map ρ) (l.map ρ')
  |[]=>by simp[ar]
  |x::l=>by simp only[List.map_cons,ar];exact⟨_,_,rfl,h x,ar.of_map h l⟩
theorem DY{S:TypeId}{x:AV}{u:Value}{i off:Nat}{T:TypeId}{r:AV}(hf:b6 P S i=some (off,T))(hz:P.cellsOf T≠0)
    (h:(match x with |.ptr o a=>some (.ptr o (a+off))|.cN cs=>some (.cN (cs.drop off))|_=>none)=some r) (hx:av G x u):
    ∃z,(Instr.fieldAt S u i).run P w=.ok z w∧av G r z:=by
  unfold b6 at hf;split at hf
  · rename_i fs hu;simp only[Option.map_eq_some_iff] at hf;obtain⟨f,hf1,hf2⟩:=hf;cases hf2;split at h
    · cases h;simp only[av] at hx;obtain⟨b,h1,rfl⟩:=hx;refine⟨_,?_,by simp only[av];exact⟨b,h1,rfl⟩⟩;simp[Instr.fieldAt,run_underlying hu,hf1,Instr.sureAddr,fieldPlace,aS hz,hz,cI]
    · cases h;simp only[av] at hx;obtain⟨b,a,vs,rfl,h1,h2⟩:=hx;refine⟨_,?_,by simp only[av];exact⟨b,_,_,rfl,h1.drop _,h2.drop _⟩⟩;simp[Instr.fieldAt,run_underlying hu,hf1,Instr.sureAddr,fieldPlace,aS hz,hz,cI]
    · cases h
  · cases hf
theorem Gb{S:TypeId}{cs:List AV}{u:Value}{i off:Nat}{T:TypeId}{r:AV}(hf:b6 P S i=some (off,T))(hz:P.cellsOf T≠0)
    (h:apart P T cs off=some r) (hx:av G (.agg cs) u):
    ∃z,(Instr.field S u i).run P w=.ok z w∧av G r z:=by
  unfold b6 at hf;split at hf
  · rename_i fs hu;simp only[Option.map_eq_some_iff] at hf;obtain⟨f,hf1,hf2⟩:=hf;cases hf2;simp only[av] at hx;obtain⟨vs,rfl,hv⟩:=hx;obtain⟨z,h1,h2⟩:=AL (w:=w) h hz hv;exact⟨z,by simp[Instr.field,run_underlying hu,hf1,asAgg,h1],h2⟩
  · cases hf
theorem B5{x:AV}{u:Value}{i:Nat}{r:AV}(h:(match x with |.eu cs=>cs[i]? |_=>none)=some r)(hx:av G x u):
    ∃z,(Instr.extract u i).run P w=.ok z w∧av G r z:=by
  split at h
  · simp only[av] at hx;obtain⟨vs,rfl,hv⟩:=hx;obtain⟨z,h1,h2⟩:=hv.get i r h;exact⟨z,by simp[Instr.extract,h1],h2⟩
  · cases h
set_option maxHeartbeats 2000000 in
theorem Gc(o:Oper){ρ:Operand→AV}{ρ':Operand→Value}{r:AV}(h:cL P ρ o.op=some r)(hρ:∀x,av G (ρ x) (ρ' x))(hs:aQ Γ G s w):
    DU Γ G s r ((execOp ρ' o).run P w):=by
  obtain⟨dst,op,type,pos,after,guard⟩:=o;cases op<;>simp only[cL] at h<;>try(cases h;done)
  case move x=>cases h;exact .same hs (by simp[execOp]) (hρ x)
  case assign x=>cases h;exact .same hs (by simp[execOp]) (hρ x)
  case pick c a b=>
    have hc:=hρ c;split at h
    · rename_i t ht;rw[ht] at hc;simp only[av] at hc;cases h;refine .same hs (v:=if t=true then ρ' a else ρ' b) (by simp[execOp,hc,asBool]) ?_;split
      · exact hρ a
      · exact hρ b
    · cases h
  case build T parts=>
    exact kj (run_build (parts:=parts.toList.map fun p=>(p.1,ρ p.2)) (qs:=parts.map fun p=>(p.1,ρ' p.2)) h (by simpa using eV.of_map hρ parts.toList)) hs
  case buildSlice T len parts=>
    exact AP (wy hs (parts:=parts.toList.map fun p=>(p.1,ρ p.2)) (qs:=parts.map fun p=>(p.1,ρ' p.2)) h (by simpa using eV.of_map hρ parts.toList))
  case load T x=>
    have hx:=hρ x;split at h
    · rename_i cs hc;rw[hc] at hx;simp only[av] at hx;obtain⟨b,off,vs,hu,hv,qi⟩:=hx;split at h
      · cases h
      · rename_i hz;obtain⟨z,h1,h2⟩:=nI h hz hv (hs.xbH qi);exact .same hs (v:=z) (by simp only[execOp,hu,Instr.loadAt,Instr.sureAddr,Sem.run_bind,Sem.run_pure,Result.andThen_ok,h1]) h2
    · cases h
  case nilCheck x=>
    have hx:=hρ x;split at h
    · rename_i o off hc;rw[hc] at hx;cases h;have Ss:=hx;simp only[av] at hx;obtain⟨b,_,hu⟩:=hx;exact .same hs (v:=ρ' x) (by simp[execOp,hu]) Ss
    · rename_i cs hc;rw[hc] at hx;cases h;have Ss:=hx;simp only[av] at hx;obtain⟨b,_,_,hu,_⟩:=hx;exact .same hs (v:=ρ' x) (by simp[execOp,hu]) Ss
    · rename_i f cs hc;rw[hc] at hx;cases h;have Ss:=hx;simp only[av] at hx;obtain⟨b,hu,_⟩:=hx;exact .same hs (v:=ρ' x) (by simp[execOp,hu]) Ss
    · rename_i f a b hc;rw[hc] at hx;cases h;have Ss:=hx;simp only[av] at hx;exact .same hs (v:=ρ' x) (by simp[execOp,hx]) Ss
    · cases h
  case binOp op T x y yT=>
    obtain⟨h1,z,h2,h3⟩:=Kx (w:=w) x y h (hρ x) (hρ y);exact .same hs (v:=z) (by simp[execOp,h1,h2]) h3
  case unOp op T x=>exact kj (Ol h (hρ x)) hs
  case convert src dst x=>exact AP (I8 h (hρ x) hs)
  case makeFunc fn first captured=>
    cases fn<;>simp only at h<;>try(cases h;done)
    rename_i f;split at h
    · rename_i hf;cases h;have UE:first = #[]:=by simpa using hf
      subst UE;refine .same hs (v:=.func (.func f) #[] (captured.map ρ')) (by simp[execOp,Instr.makeFunc]) ?_;simp only[av];exact⟨captured.toList.map ρ',by congr 1;apply Array.ext';simp,ar.of_map hρ _⟩
    · cases h
  case slice T x lo hi mx=>exact kj (F9 h (hρ x) (.of_map hρ lo) (.of_map hρ hi) (.of_map hρ mx)) hs
  case fieldAddr S x i=>
    split at h
    · rename_i off T hf;split at h
      · cases h
      · rename_i hz;exact kj (DY hf hz h (hρ x)) hs
    · cases h
  case field S x i=>
    split at h
    · rename_i off T cs hf hc;split at h
      · cases h
      · rename_i hz;have hx:=hρ x;rw[hc] at hx;exact kj (Gb hf hz h hx) hs
    · cases h
  case indexAddr T x i=>exact kj (xw h (hρ x) (hρ i)) hs
  case index T x i=>exact kj (F8 h (hρ x) (hρ i)) hs
  case extract t i=>exact kj (B5 h (hρ t)) hs
  case call c=>
    obtain⟨callee,args,argTypes⟩:=c;cases callee<;>simp only at h<;>try(cases h;done)
    rename_i b;obtain⟨z,h1,h2⟩:=B4 (w:=w) (T:=type) (consts:=args.map fun |.const _=>true|_=>false) h (ar.of_map hρ args.toList);refine .same hs (v:=z) ?_ h2;have e:(args.toList.map ρ').toArray=args.map ρ':=(by apply Array.ext';simp);rw[e] at h1;simp only[execOp,resolve,Sem.run_bind,Sem.run_pure,Result.andThen_ok,invoke];exact h1
end Go.AM
namespace Go.AM
open Go Go.RowKit
variable{P:Program}{Γ:Nat→List AV}{G:Gh}{s:AS}{w:World}
theorem mQ{K:Nat→Prop}{b:Nat}:∀(us:List Value)(st:Nat)(w:World),IZ K w→IZ K (w.setCells b st us)
  |[],_,_,h=>h
  |u::us,st,w,h=>by rw[World.setCells];exact mQ us _ _ (sJ h)
theorem aQ.On(h:aQ Γ G s w){b st:Nat}{us:List Value}(hB:G.B≤b)(hr:∀j,st≤j→j<st+us.length→G.ro b j=none)(ho:∀o,G.obj o≠some b)
    (ht:∀t e xa xb,s.own t=some e→G.tok t e≠some (b,xa,xb)):aQ Γ G s (w.setCells b st us):=by
  have bB:∀b' j,(b'≠b∨j<st∨st+us.length≤j)→(w.setCells b st us).cell? ⟨b',j,none⟩=w.cell? ⟨b',j,none⟩:=by
    intro b' j hd;exact World.cell?_setCells_out b us st w ⟨b',j,none⟩ (fun h1 _=>by simp at h1;simp;omega)
  have fa:∀(us:List Value)(st:Nat)(w:World),(w.setCells b st us).heap.size=w.heap.size:=by
    intro us;induction us with
    |nil=>intro st w;rfl
    |cons u us ih=>intro st w;rw[World.setCells,ih];simp
  have Oo:∀(us:List Value)(st:Nat)(w:World),Below G.B w (w.setCells b st us):=by
    intro us;induction us with
    |nil=>intro st w;exact Below.refl _ _
    |cons u us ih=>intro st w;rw[World.setCells];exact((Below.refl _ _).setCell (p:=⟨b,st,none⟩) hB u).trans (ih _ _)
  constructor;case ro=>
    intro b' j u hu;rw[bB]
    · exact h.ro b' j u hu
    · by_cases e:b'=b
      · subst e;right;rcases Nat.lt_or_ge j st with h1|h1
        · exact .inl h1
        · right;rcases Nat.lt_or_ge j (st+us.length) with h2|h2
          · rw[hr j h1 h2] at hu;cases hu
          · exact h2
      · exact .inl e
  case aw=>
    intro o cs hc;obtain⟨b',vs,h1,h2,h3,h4⟩:=h.aw o cs hc;refine⟨b',vs,h1,h2,h3,fun j u hu=>?_⟩;have BZ:b'≠b:=fun e=>ho o (e ▸ h1);rw[bB _ _ (.inl BZ),World.frozen?_setCells];exact h4 j u hu
  case cX=>intro o b' hb;rw[fa];exact h.cX o b' hb
  case inj=>exact h.inj
  case own=>
    intro t e he;obtain⟨b',xa,xb,h1,h2,h3,h4,h5,h6⟩:=h.own t e he;refine⟨b',xa,xb,h1,h2,h3,fun j hj kg=>?_,h5,by rw[fa];exact h6⟩;have BZ:b'≠b:=fun e'=>ht t e _ _ he (e' ▸ h1);rw[bB _ _ (.inl BZ),World.frozen?_setCells];exact h4 j hj kg
  case cJ=>exact h.cJ
  case bR=>exact h.bR
  case cF=>exact h.cF
  case cb=>exact h.cb
  case below=>exact h.below.trans (Oo us st w)
  case others=>
    refine h.others.trans ?_;have :∀(us:List Value)(st:Nat)(w:World),dn w (w.setCells b st us):=by
      intro us;induction us with
      |nil=>intro st w;exact dn.refl _
      |cons u us ih=>intro st w;rw[World.setCells];exact(dn.setCell _ _ _).trans (ih _ _)
    exact this us st w
  case base=>rw[fa];exact h.base
  case soft=>
    exact mQ us st w h.soft
  case gZ=>exact h.gZ
theorem aQ.Jc(h:aQ Γ G s w){b st:Nat}{us:List Value}(hc:∀(j:Nat)(u:Value),us[j]? =some u→w.cell? ⟨b,st+j,none⟩=some u)(hr:∀j,st≤j→j<st+us.length→G.ro b j=none)(ho:∀o,G.obj o≠some b)
    (ht:∀t e xa xb,s.own t=some e→G.tok t e≠some (b,xa,xb)):G.le (G.eT b st us)∧aQ Γ (G.eT b st us) s w:=by
  have hle:G.le (G.eT b st us):=Gh.xq hr;have qi:∀b' j,b'≠b→(G.eT b st us).ro b' j=G.ro b' j:=(fun b' j hb=>by simp[Gh.eT,hb]);refine⟨hle,?_⟩;constructor;case ro=>
    intro b' j u hu;by_cases e:b'=b
    · subst e;simp only[Gh.eT] at hu;split at hu
      · rename_i hj;have:=hc (j-st) u (by simpa using hu);rwa [show st+(j-st)=j from by omega] at this
      · exact h.ro _ j u hu
    · rw[qi b' j e] at hu;exact h.ro b' j u hu
  case aw=>
    intro o cs hc;obtain⟨b',vs,h1,h2,h3,h4⟩:=h.aw o cs hc;refine⟨b',vs,h1,ar.mono hle _ _ h2,h3,fun j u hu=>?_⟩;have BZ:b'≠b:=fun e=>ho o (e ▸ h1);rw[qi _ _ BZ];exact h4 j u hu
  case cX=>exact h.cX
  case inj=>exact h.inj
  case own=>
    intro t e he;obtain⟨b',xa,xb,h1,h2,h3,h4,h5,h6⟩:=h.own t e he;refine⟨b',xa,xb,h1,h2,h3,fun j hj kg=>?_,h5,h6⟩;have BZ:b'≠b:=fun e'=>ht t e _ _ he (e' ▸ h1);rw[qi _ _ BZ];exact h4 j hj kg
  case cJ=>exact h.cJ
  case bR=>exact h.bR
  case cF=>exact h.cF
  case cb=>exact h.cb
  case below=>exact h.below
  case others=>exact h.others
  case base=>exact h.base
  case soft=>exact h.soft
  case gZ=>
    intro g;obtain⟨us,h1,h2⟩:=h.gZ g;exact⟨us,ar.mono hle _ _ h1,h2.mono hle⟩
theorem aQ.fill(h:aQ Γ G s w){t g b st en:Nat}{us:List Value}(ht:s.own t=some g)(hk:G.tok t g=some (b,st,en))(hu:st+us.length≤en):
    (∀j,j<us.length→(w.cell? ⟨b,st+j,none⟩).isSome=true)∧(∀j,j<us.length→w.frozen? ⟨b,st+j,none⟩=false)∧
    ∃G',G.le G'∧aQ Γ G' (s.bA t (g+1)) (w.setCells b st us)∧gz G' b st us∧G'.tok t (g+1)=some (b,st+us.length,en):=by
  obtain⟨b1,Ve,Vf,k1,k2,k3,k4,k5,k6⟩:=h.own t g ht
  rw[hk] at k1
  simp only[Option.some.injEq,Prod.mk.injEq] at k1
  obtain⟨rfl,rfl,rfl⟩:=k1
  refine⟨fun j hj=>?_,fun j hj=>(k4 (st+j) (by omega) (by omega)).2.1,?_⟩
  · obtain⟨u,Oh⟩:=(k4 (st+j) (by omega) (by omega)).1
    simp[Oh]
  · let s1:AS:={s with own:=aB s.own t none}
    have gV:aQ Γ G s1 w:=h.mono ⟨fun _ _ h=>h,fun t' e' he=>by
      by_cases e:t'=t
      · subst e;simp[s1] at he
      · simpa[s1,aB,e] using he⟩
    have Kz:∀t' e' xa xb,s1.own t'=some e'→G.tok t' e'≠some (b,xa,xb):=by
      intro t' e' xa xb he hc
      by_cases e:t'=t
      · subst e;simp[s1] at he
      · simp[s1,aB,e] at he
        exact e (h.cJ t' e' t g b xa xb st en he ht hc hk)
    have QU:∀j,st≤j→j<st+us.length→G.ro b j=none:=fun j h1 h2=>(k4 j h1 (by omega)).2.2
    have h1:=gV.On (us:=us) k3 QU k5 Kz
    obtain⟨hle,h2⟩:=h1.Jc (b:=b) (st:=st) (us:=us) (fun j u hj=>by
      have Gd:j<us.length:=by
        rcases Nat.lt_or_ge j us.length with h|h
        · exact h
        · simp[List.getElem?_eq_none h] at hj
      rw[World.cell?_setCells_in b us st w (fun i hi=>by
        obtain⟨u,Oh⟩:=(k4 (st+i) (by omega) (by omega)).1
        simp[Oh]) j Gd]
      simpa[Gd] using hj) QU k5 Kz
    have hg:=h2.bA (t:=t) (e:=g+1) (b:=b) (st:=st+us.length) (en:=en) (h.bR t g ht _ (by omega)) (fun e' he'=>h.bR t g ht _ (by omega)) (by omega) k3
      (fun j hj kg=>by
        obtain⟨⟨u,q1⟩,q2,q3⟩:=k4 j (by omega) kg
        refine⟨⟨u,?_⟩,by rw[World.frozen?_setCells];exact q2,?_⟩
        · rw[World.cell?_setCells_out b us st w ⟨b,j,none⟩ (fun _ _=>.inr (by simp;omega))];exact q1
        · simp only[Gh.eT];rw[if_neg (by omega)];exact q3)
      k5 (by
        have fa:∀(us:List Value)(st:Nat)(w:World),(w.setCells b st us).heap.size=w.heap.size:=by
          intro us
          induction us with
          |nil=>intro st w;rfl
          |cons u us ih=>intro st w;rw[World.setCells,ih];simp
        rw[fa];exact k6)
      (fun t' e' xa xb cY ho hc=>Kz t' e' xa xb ho hc)
      (fun c T lo hi hc=>mQ (K:=Kn G s) us st w h.soft b c T lo hi (.inr ⟨t,g,_,ht,hk⟩) hc)
    refine⟨_,hle.trans hg.1,?_,(gz.added G b st us).mono hg.1,by simp[Gh.ij]⟩
    have heq:s1.bA t (g+1)=s.bA t (g+1):=by
      simp only[AS.bA,s1,AS.mk.injEq,true_and]
      funext i
      simp only[aB]
      split <;>rfl
    rw[←heq]
    exact hg.2
def im(sz:Nat)(s:AS):AV→Option (Nat×List AV)
  |.sl QV m ds _=>if QV=sz then some (m,ds) else none
  |.v (.slice none 0 _)=>some (0,[])
  |.ig o off QV m _=>if QV=sz then(match s.aw o with |some cs=>if off+m*sz≤cs.length then some (m,(cs.drop off).take (m*sz)) else none|none=>none) else none
  |.v (.string b)=>if sz=1 then some (b.size,b.data.toList.map ae) else none
  |_=>none
theorem rG{sz m:Nat}{y:AV}{ds:List AV}{u:Value}(h:im sz s y=some (m,ds))(hy:av G y u)(hs:aQ Γ G s w):
    ∃us,ar G ds us∧us.length=m*sz∧(∀w',(Builtin.lenOf u).run P w'=.ok m w')∧(∀w',(∀b j,w'.cell? ⟨b,j,none⟩=w.cell? ⟨b,j,none⟩)→(Builtin.firstCells sz m u).run P w'=.ok us.toArray w'):=by
  unfold im at h;split at h
  · split at h
    · rename_i QV m' ds' sp fa;subst fa;cases h;simp only[av] at hy;rcases hy with⟨b,off,cap,vs,rfl,hl,_,hv,qi,_⟩|⟨rfl,rfl,a,cap,rfl,_⟩|⟨rfl,rfl,rfl,rfl⟩;case inr.inr=>exact⟨[],by simp[ar],by simp,fun w'=>rfl,fun w' _=>run_firstCells_none w' _ _ _ _⟩
      case inr.inl=>exact⟨[],by simp[ar],by simp,fun w'=>rfl,fun w' _=>run_firstCells_some w' _ _ _ _ _ [] (by simp) (by simp)⟩
      have hlen:=hv.length;refine⟨vs,hv,by omega,fun w'=>rfl,fun w' Su=>?_⟩;exact run_firstCells_some w' _ _ _ _ _ vs (by omega) (fun j v hj=>by rw[cI,Su];exact hs.ro _ _ _ (qi j v hj))
    · cases h
  · cases h;simp only[av] at hy;subst hy;exact⟨[],by simp[ar],by simp,fun w'=>rfl,fun w' _=>run_firstCells_none w' _ _ _ _⟩
  · split at h
    · rename_i o off QV m' cap fa;subst fa;split at h
      · rename_i cs hc;split at h
        · rename_i hle;cases h;simp only[av] at hy;obtain⟨b,ho,rfl,_⟩:=hy;obtain⟨b',vs,h1,h2,h3,h4⟩:=hs.aw o cs hc;rw[ho] at h1;cases h1;have hlen:=h2.length;have hv:=(h2.drop off).take (m*QV);refine⟨_,hv,by simp;omega,fun w'=>rfl,fun w' Su=>?_⟩;refine run_firstCells_some w' _ _ _ _ _ _ (by simp;omega) (fun j v hj=>?_);rw[cI,Su];rw[List.getElem?_take] at hj;split at hj
          · rw[List.getElem?_drop] at hj;exact(h4 _ _ hj).1
          · cases hj
        · cases h
      · cases h
    · cases h
  · split at h
    · rename_i b fa;subst fa;cases h;simp only[av] at hy;subst hy;refine⟨dw b.data.toList,mz _,by have :b.data.size=b.size:=rfl;simp[dw,this],fun w'=>rfl,fun w' _=>?_⟩;simp only[Builtin.firstCells,Sem.run_pure];congr 1;have hb:b.extract 0 b.size=b:=by
        apply ByteArray.ext;simp
      rw[hb];apply Array.ext';simp[dw]
    · cases h
  · cases h
def kR(P:Program)(t:Option TypeId):Bool:=
  match t.bind P.underlying with
  |some (.slice _)|some .string=>true
  |_=>false
theorem nK{x:TypeId}(h:kR P (some x)=true):(∃e,P.underlying x=some (.slice e))∨P.underlying x=some .string:=by
  unfold kR at h;simp only[Option.bind_some] at h;cases hu:P.underlying x with
  |none=>simp[hu] at h
  |some d=>cases d<;>simp[hu] at h<;>first |exact .inl ⟨_,rfl⟩|exact .inr rfl
def pt(P:Program)(e:TypeId)(z:List AV):Prop:=bo P e=some z∧P.cellsOf e≠0∧z.length=P.cellsOf e
theorem iq{m:Nat}{u:Value}(eO:∀w',(Builtin.lenOf u).run P w'=.ok m w'){T xT e:TypeId}(hT:P.underlying T=some (.slice e))(hx:kR P (some xT)=true)
    {z:List AV} (he:pt P e z)
    {base:Option Addr} {n cap:Nat} {olds news:List Value} (hold:∀w',(∀b j,w'.cell? ⟨b,j,none⟩=w.cell? ⟨b,j,none⟩)→(Builtin.firstCells (P.cellsOf e) n (.slice base n cap)).run P w'=.ok olds.toArray w')
    (lI:∀w',(∀b j,w'.cell? ⟨b,j,none⟩=w.cell? ⟨b,j,none⟩)→(Builtin.firstCells (P.cellsOf e) m u).run P w'=.ok news.toArray w')
    (hg:cap<n+m) (bT:(n+m)*P.bytesOf e≤2^46) (B6:n+m≤2^46) (ty:TypeId):
    ∃(kZ:Nat)(rest:List Value),n+m≤kZ∧rest.length=(kZ-(n+m))*P.cellsOf e∧
      (Builtin.append_ #[T,xT] ty #[.slice base n cap,u]).run P w=.ok (.slice (some ⟨w.heap.size,0,none⟩) (n+m) kZ) (w.drew.alloc (.cells ((olds++news)++rest).toArray e)):=by
  obtain⟨hz,fa,sQ⟩:=he;obtain⟨zv,Ki,xx⟩:=dD hz;obtain⟨i,hi⟩:=eZ fa;have hb:P.bytesOf e=i.bytes:=(by simp[Program.bytesOf,hi]);have HP:∀w',(typeInfo e).run P w'=.ok i w':=(fun w'=>by simp[typeInfo,hi]);have Sv:¬(n+m≤cap):=(by omega);have nL:¬(9223372036854775807<(n:Int)+(m:Int)):=(by omega);have uC:=nextslicecap_le (need:=n+m) (old:=cap) hg;have nM:¬(2^48<Builtin.nextslicecap (n+m) cap*i.bytes):=by
    rw[hb] at bT;have h2:Builtin.nextslicecap (n+m) cap*i.bytes≤2*(n+m)*i.bytes:=Nat.mul_le_mul_right _ uC;rw[Nat.mul_assoc] at h2;omega
  have sQ:zv.cells.size=P.cellsOf e:=by
    rw[xx] at sQ;simpa using sQ
  have xA:=hold w.drew (fun b j=>rfl);have hn1:=lI w.drew (fun b j=>rfl);refine⟨_,(Builtin.zeroCells zv.cells ((Question.appendCap (n+m) cap e).cut (w.tape w.drawn (.appendCap (n+m) cap e))-(n+m))).toList,fb (n+m) cap e (w.tape w.drawn (.appendCap (n+m) cap e)),?_,?_⟩
  · simp[Builtin.zeroCells,sQ]
  · have hf:(Question.appendCap (n+m) cap e).forced=false:=rfl;rcases nK hx with⟨e',hx⟩|hx;all_goals
      simp[Builtin.append_,run_underlying hT,aS fa,run_underlying hx,eO,Sv,HP,nL,nM,hf,xA,hn1,Ki,newRow];congr 2;apply Array.ext';simp[List.append_assoc]
theorem qN{m:Nat}{u:Value}(eO:∀w',(Builtin.lenOf u).run P w'=.ok m w'){T xT e:TypeId}(hT:P.underlying T=some (.slice e))(hx:kR P (some xT)=true)(fa:P.cellsOf e≠0)
    {b off n cap:Nat} {news:List Value}
    (lI:(Builtin.firstCells (P.cellsOf e) m u).run P w=.ok news.toArray w)
    (hc:∀j,j<news.length→(w.cell? ⟨b,off+n*P.cellsOf e+j,none⟩).isSome=true) (hf:∀j,j<news.length→w.frozen? ⟨b,off+n*P.cellsOf e+j,none⟩=false) (h1:∀v∈news,v.oneCell'=true)
    (hg:n+m≤cap) (ty:TypeId):
    (Builtin.append_ #[T,xT] ty #[.slice (some ⟨b,off,none⟩) n cap,u]).run P w=.ok (.slice (some ⟨b,off,none⟩) (n+m) cap) (w.setCells b (off+n*P.cellsOf e) news):=by
  have gS:=run_storeCells_cells (P:=P) b (off+n*P.cellsOf e) news 0 w (by simpa using hc) (by simpa using hf) h1;simp only[Nat.add_zero] at gS;rcases nK hx with⟨e',hx⟩|hx;all_goals
    simp[Builtin.append_,run_underlying hT,aS fa,run_underlying hx,eO,hg,lI,cI,gS]
theorem gM{u:Value}(eO:∀w',(Builtin.lenOf u).run P w'=.ok 0 w'){T xT e:TypeId}(hT:P.underlying T=some (.slice e))(hx:kR P (some xT)=true)(fa:P.cellsOf e≠0)
    {base:Option Addr} {n cap:Nat} (lI:(Builtin.firstCells (P.cellsOf e) 0 u).run P w=.ok #[] w) (hg:n≤cap) (ty:TypeId):
    (Builtin.append_ #[T,xT] ty #[.slice base n cap,u]).run P w=.ok (.slice base n cap) w:=by
  rcases nK hx with⟨e',hx⟩|hx;all_goals
    cases base<;>simp[Builtin.append_,run_underlying hT,aS fa,run_underlying hx,eO,hg,lI,storeCells]
theorem lJ:∀{ds:List AV}{us:List Value},ar G ds us→ds.all AV.one=true→∀u∈us,u.oneCell'=true
  |[],us,h,_=>by simp only[ar] at h;subst h;simp
  |d::ds,us,h,ha=>by
    simp only[ar] at h;obtain⟨u,wu,rfl,h2,h3⟩:=h;simp only[List.all_cons,Bool.and_eq_true] at ha;intro x hx;rcases List.mem_cons.1 hx with rfl|hx
    · have h1:=ha.1;cases d with
      |v y=>simp only[av] at h2;subst h2;cases x<;>simp[AV.one] at h1<;>rfl
      |sl sz n cs sp=>simp only[av] at h2;rcases h2 with⟨b,off,cap,vs,rfl,_⟩|⟨_,_,a,cap,rfl,_⟩|⟨_,_,_,rfl⟩<;>rfl
      |cN cs=>simp only[av] at h2;obtain⟨b,off,vs,rfl,_⟩:=h2;rfl
      |ptr o off=>simp only[av] at h2;obtain⟨b,_,rfl⟩:=h2;rfl
      |ig o off sz n cap=>simp only[av] at h2;obtain⟨b,_,rfl,_⟩:=h2;rfl
      |agg cs=>simp[AV.one] at h1
      |eu cs=>simp[AV.one] at h1
      |qE f cs=>simp only[av] at h2;obtain⟨vs,rfl,_⟩:=h2;rfl
    · exact lJ h3 ha.2 x hx
def fS(P:Program)(e:TypeId)(x:AV)(m:Nat)(ds:List AV)(s:AS)(K:AV→AS→Prop):Prop:=
  match x with
  |.v (.slice none 0 0)=>
    if m=0 then K (.v (.slice none 0 0)) s
    else m*P.bytesOf e≤2^46∧m≤2^46∧∀t,s.own t=none→K (.sl (P.cellsOf e) m ds (.own t 0)) (s.bA t 0)
  |.sl sz n cs sp=>
    if m=0 then K (.sl sz n cs sp) s
    else sz=P.cellsOf e∧(n+m)*P.bytesOf e≤2^46∧n+m≤2^46∧ds.all AV.one=true∧
      match sp with
      |.full=>∀t,s.own t=none→K (.sl sz (n+m) (cs++ds) (.own t 0)) (s.bA t 0)
      |.new=>∀t,s.own t=none→K (.sl sz (n+m) (cs++ds) (.own t 0)) (s.bA t 0)
      |.own t g=>s.own t=some g∧K (.sl sz (n+m) (cs++ds) (.own t (g+1))) (s.bA t (g+1))
      |.no=>False
      |.any=>False
  |_=>False
theorem qP{x y:AV}{u v:Value}{m:Nat}{ds:List AV}{T xT e:TypeId}{z:List AV}{K:AV→AS→Prop}(hT:P.underlying T=some (.slice e))(hx:kR P (some xT)=true)(he:pt P e z)
    (eO:im (P.cellsOf e) s y=some (m,ds)) (h:fS P e x m ds s K) (ph:av G x u) (wz:av G y v) (hs:aQ Γ G s w) (ty:TypeId):
    ∃G' z w' r s',(Builtin.append_ #[T,xT] ty #[u,v]).run P w=.ok z w'∧G.le G'∧aQ Γ G' s' w'∧av G' r z∧K r s':=by
  obtain⟨us,hv,hlen,jf,fp⟩:=rG (P:=P) eO wz hs
  have B7:=hv.length
  unfold fS at h
  split at h
  · -- onto nil
    simp only[av] at ph
    subst ph
    split at h
    · rename_i hm
      subst hm
      have la:us=[]:=List.eq_nil_of_length_eq_zero (by simpa using hlen)
      subst la
      exact⟨G,_,w,_,s,gM jf hT hx he.2.1 (fp w (fun _ _=>rfl)) (Nat.le_refl _) ty,.refl G,hs,by simp[av],h⟩
    · rename_i hm
      obtain⟨h1,h2,h3⟩:=h
      obtain⟨kZ,rest,xc,zE,lH⟩:=iq (P:=P) (w:=w) jf hT hx he (base:=none) (n:=0) (cap:=0) (olds:=[]) (news:=us)
        (fun w' _=>run_firstCells_none w' _ _ _ _) fp (by omega) (by simpa using h1) (by simpa using h2) ty
      simp only[Nat.zero_add] at xc zE lH
      obtain⟨G',g1,g2,g3,g4,g5,g6⟩:=hs.drew.pq us rest e G.nt 0 (fun e' _=>hs.cb _ (Nat.le_refl _) e')
      refine⟨G',_,_,_,_,lH,g1,g2,?_,h3 G.nt (hs.gR (Nat.le_refl _))⟩
      simp only[av]
      refine .inl ⟨w.heap.size,0,kZ,us,rfl,by omega,xc,ar.mono g1 _ _ hv,g3,?_⟩
      simp only[eC]
      rw[g4]
      simp only[List.length_append,hlen,zE,Nat.zero_add]
      rw[←Nat.add_mul,Nat.add_sub_cancel' xc]
      rfl
  · -- onto a slice
    rename_i sz n cs sp
    have Oq:=ph
    simp only[av] at ph
    rcases ph with⟨b,off,cap,vs,rfl,hl,B3,FV,qi,rE⟩|⟨rfl,rfl,a,cap,rfl,xB⟩|⟨rfl,rfl,rfl,rfl⟩
    case inr.inr=>
      split at h
      · rename_i hm
        subst hm
        have la:us=[]:=List.eq_nil_of_length_eq_zero (by simpa using hlen)
        subst la
        exact⟨G,_,w,_,s,gM jf hT hx he.2.1 (fp w (fun _ _=>rfl)) (Nat.le_refl _) ty,.refl G,hs,Oq,h⟩
      · obtain⟨rfl,h1,h2,kG,h3⟩:=h
        exact h3.elim
    case inr.inl=>
      split at h
      · rename_i hm
        subst hm
        have la:us=[]:=List.eq_nil_of_length_eq_zero (by simpa using hlen)
        subst la
        exact⟨G,_,w,_,s,gM jf hT hx he.2.1 (fp w (fun _ _=>rfl)) (Nat.zero_le _) ty,.refl G,hs,Oq,h⟩
      · rename_i hm
        obtain⟨rfl,h1,h2,kG,h3⟩:=h
        rcases xB with rfl|rfl|⟨rfl,rfl⟩
        · exact h3.elim
        · exact h3.elim
        ·
          obtain⟨kZ,rest,xc,zE,lH⟩:=iq (P:=P) (w:=w) jf hT hx he (base:=some a) (n:=0) (cap:=0) (olds:=[]) (news:=us)
            (fun w' _=>run_firstCells_some w' _ _ _ _ _ [] (by simp) (by simp)) fp (by omega) h1 h2 ty
          simp only[Nat.zero_add] at xc zE lH h3
          obtain⟨G',g1,g2,g3,g4,g5,g6⟩:=hs.drew.pq us rest e G.nt 0 (fun e' _=>hs.cb _ (Nat.le_refl _) e')
          refine⟨G',_,_,_,_,lH,g1,g2,?_,h3 G.nt (hs.gR (Nat.le_refl _))⟩
          simp only[av]
          refine .inl ⟨w.heap.size,0,kZ,us,rfl,by simp only[List.nil_append];omega,xc,ar.mono g1 _ _ hv,g3,?_⟩
          simp only[eC]
          rw[g4]
          simp only[List.length_append,hlen,zE,Nat.zero_add]
          rw[←Nat.add_mul,Nat.add_sub_cancel' xc]
          rfl
    have QW:=FV.length
    split at h
    · rename_i hm
      subst hm
      have la:us=[]:=List.eq_nil_of_length_eq_zero (by simpa using hlen)
      subst la
      exact⟨G,_,w,_,s,gM jf hT hx he.2.1 (fp w (fun _ _=>rfl)) B3 ty,.refl G,hs,Oq,h⟩
    · rename_i hm
      obtain⟨rfl,h1,h2,kG,h3⟩:=h
      have hold:∀w',(∀b j,w'.cell? ⟨b,j,none⟩=w.cell? ⟨b,j,none⟩)→(Builtin.firstCells (P.cellsOf e) n (.slice (some ⟨b,off,none⟩) n cap)).run P w'=.ok vs.toArray w':=
        fun w' Su=>run_firstCells_some w' _ _ _ _ _ vs (by omega) (fun j v hj=>by rw[cI,Su];exact hs.ro _ _ _ (qi j v hj))
      have grow:∀(t g:Nat),cap<n+m→(∀e',g≤e'→G.tok t e'=none)→
          ∃G' z w',(Builtin.append_ #[T,xT] ty #[.slice (some ⟨b,off,none⟩) n cap,v]).run P w=.ok z w'∧G.le G'∧aQ Γ G' (s.bA t g) w'∧av G' (.sl (P.cellsOf e) (n+m) (cs++ds) (.own t g)) z:=by
        intro t g bJ ht
        obtain⟨kZ,rest,xc,zE,lH⟩:=iq (P:=P) (w:=w) jf hT hx he (base:=some ⟨b,off,none⟩) (n:=n) (cap:=cap) (olds:=vs) (news:=us) hold fp bJ h1 h2 ty
        obtain⟨G',g1,g2,g3,g4,g5,g6⟩:=hs.drew.pq (vs++us) rest e t g ht
        refine⟨G',_,_,lH,g1,g2,?_⟩
        simp only[av]
        refine .inl ⟨w.heap.size,0,kZ,vs++us,rfl,by simp only[List.length_append,hl,B7,hlen,Nat.add_mul],xc,ar.mono g1 _ _ (FV.append hv),g3,?_⟩
        simp only[eC]
        rw[g4]
        have e1:(vs++us).length=(n+m)*P.cellsOf e:=by simp only[List.length_append,←QW,hl,hlen,Nat.add_mul]
        rw[List.length_append (as:=vs++us),e1,zE,Nat.zero_add,Nat.zero_add,←Nat.add_mul,Nat.add_sub_cancel' xc]
        rfl
      split at h3
      · -- no room
        simp only[eC] at rE
        subst rE
        obtain⟨G',z,w',q1,q2,q3,q4⟩:=grow G.nt 0 (by omega) (fun e' _=>hs.cb _ (Nat.le_refl _) e')
        exact⟨G',z,w',_,_,q1,q2,q3,q4,h3 G.nt (hs.gR (Nat.le_refl _))⟩
      · -- a literal: no room
        simp only[eC] at rE
        obtain⟨rE,-⟩:=rE
        subst rE
        obtain⟨G',z,w',q1,q2,q3,q4⟩:=grow G.nt 0 (by omega) (fun e' _=>hs.cb _ (Nat.le_refl _) e')
        exact⟨G',z,w',_,_,q1,q2,q3,q4,h3 G.nt (hs.gR (Nat.le_refl _))⟩
      · rename_i t g
        obtain⟨ht,hK⟩:=h3
        simp only[eC] at rE
        rcases Nat.lt_or_ge cap (n+m) with bJ|cA
        · obtain⟨G',z,w',q1,q2,q3,q4⟩:=grow t (g+1) bJ (fun e' he'=>hs.bR t g ht e' (by omega))
          exact⟨G',z,w',_,_,q1,q2,q3,q4,hK⟩
        · have KA:off+n*P.cellsOf e+us.length≤off+cap*P.cellsOf e:=by
            rw[hlen,Nat.add_assoc,←Nat.add_mul]
            exact Nat.add_le_add_left (Nat.mul_le_mul_right _ cA) _
          obtain⟨f1,f2,G',g1,g2,g3,g4⟩:=hs.fill ht rE KA
          refine⟨G',_,_,_,_,qN jf hT hx he.2.1 (fp w (fun _ _=>rfl)) f1 f2 (lJ hv kG) cA ty,g1,g2,?_,hK⟩
          simp only[av]
          refine .inl ⟨b,off,cap,vs++us,rfl,by simp only[List.length_append,hl,B7,hlen,Nat.add_mul],cA,ar.mono g1 _ _ (FV.append hv),?_,?_⟩
          · intro j x hj
            rcases Nat.lt_or_ge j vs.length with Gd|Gd
            · rw[List.getElem?_append_left Gd] at hj
              exact g1.ro _ _ _ (qi j x hj)
            · rw[List.getElem?_append_right Gd] at hj
              have:=g3 (j-vs.length) x hj
              rwa [show off+n*P.cellsOf e+(j-vs.length)=off+j from by rw[←hl,QW];omega] at this
          · simp only[eC]
            rw[g4,hlen,Nat.add_assoc,←Nat.add_mul]
      · exact h3.elim
      · exact h3.elim
  · exact h.elim
theorem rH{n:Nat}{T xT xS e:TypeId}{k:IntKind}(hT:P.underlying T=some (.slice e))(hx:P.underlying xT=some (.int k))(hS:P.underlying xS=some .string)
    (hz:bo P e=some [.v (.int .u8 0)]) (hc:P.cellsOf e=1) (hb:P.bytesOf e=1) (hn:n≤2^45) {base:Option Addr} {m cap:Nat} (hm:m≤2^45) (ty:TypeId):
    (Builtin.append_ #[T,xT] ty #[.slice base m cap,.int .i64 n]).run P w=(Builtin.append_ #[T,xS] ty #[.slice base m cap,.string ⟨(List.replicate n (0:UInt8)).toArray⟩]).run P w:=by
  have fa:P.cellsOf e≠0:=(by omega);obtain⟨zv,Ki,xx⟩:=dD hz;obtain⟨i,hi⟩:=eZ fa;have Kj:i.bytes=1:=(by rw[←hb];simp[Program.bytesOf,hi]);have HP:∀w',(typeInfo e).run P w'=.ok i w':=(fun w'=>by simp[typeInfo,hi]);have hw:IntKind.i64.wrap (n:Int)=n:=IntWalk.i64_in _ (by omega);have zG:¬((n:Int)<0):=(by omega);have Jd:¬((281474976710656:Int)<(n:Int)):=(by omega);have Ot:(⟨(List.replicate n (0:UInt8)).toArray⟩:ByteArray).size=n:=(by simp[ByteArray.size]);have hzc:zv.cells= #[.int .u8 0]:=by
    have :zv.cells.toList.map AV.v=[AV.v (.int .u8 0)]:=(by rw[←xx]);cases h:zv.cells.toList with
    |nil=>rw[h] at this;simp at this
    |cons a t=>
      rw[h] at this;simp at this;obtain⟨h1,h2⟩:=this;subst h1 h2;apply Array.ext';simpa using h
  have Sw:((⟨(List.replicate n (0:UInt8)).toArray⟩:ByteArray).extract 0 n).data.map (fun b=>Value.int .u8 b.toNat)=Builtin.zeroCells zv.cells n:=by
    have e:(⟨(List.replicate n (0:UInt8)).toArray⟩:ByteArray).extract 0 n=⟨(List.replicate n (0:UInt8)).toArray⟩:=by
      apply ByteArray.ext;simp
    rw[hzc,e];apply Array.ext';simp only[Builtin.zeroCells];apply List.ext_getElem?;intro j;by_cases hj:j<n
    · simp[hj,List.getElem?_replicate,Nat.mod_one]
    · simp[hj,List.getElem?_replicate]
  generalize (⟨(List.replicate n (0:UInt8)).toArray⟩:ByteArray)=bb at Ot Sw⊢;have nL:¬(9223372036854775807<(m:Int)+(n:Int)):=(by omega);by_cases hg:m+n≤cap
  · by_cases h0:n=0
    · subst h0;have KB:IntKind.i64.wrap 0=0:=(by decide);have Vi:Builtin.zeroCells zv.cells 0= #[]:=(by simp[Builtin.zeroCells]);simp at hg nL;simp[KB,Vi,Builtin.append_,run_underlying hT,aS fa,run_underlying hx,run_underlying hS,asInt,asIntOf,hw,zG,HP,Jd,hg,Kj,hc,Ki,Builtin.firstCells,Builtin.lenOf,Ot]
    · simp[Builtin.append_,run_underlying hT,aS fa,run_underlying hx,run_underlying hS,asInt,asIntOf,hw,zG,HP,Jd,hg,Kj,hc,Ki,Builtin.firstCells,Builtin.lenOf,Ot,h0,←Sw]
  · have uC:=nextslicecap_le (need:=m+n) (old:=cap) (by omega);have nM:¬(2^48<Builtin.nextslicecap (m+n) cap):=(by omega);by_cases h0:n=0
    · subst h0;have KB:IntKind.i64.wrap 0=0:=(by decide);have Vi:Builtin.zeroCells zv.cells 0= #[]:=(by simp[Builtin.zeroCells]);have QX:¬m≤cap:=(by omega);have Je:¬(9223372036854775807<(m:Int)):=(by omega);have xbM:¬(281474976710656<Builtin.nextslicecap m cap):=(by simpa using nM);simp[QX,Je,xbM,KB,Vi,Builtin.append_,run_underlying hT,aS fa,run_underlying hx,run_underlying hS,asInt,asIntOf,hw,zG,HP,Jd,hg,Kj,hc,Ki,Builtin.firstCells,Builtin.lenOf,Ot,nM,nL]
    · simp[Builtin.append_,run_underlying hT,aS fa,run_underlying hx,run_underlying hS,asInt,asIntOf,hw,zG,HP,Jd,hg,Kj,hc,Ki,Builtin.firstCells,Builtin.lenOf,Ot,h0,nM,nL,←Sw]
def DZ(P:Program)(e xT:TypeId)(x y:AV)(s:AS)(K:AV→AS→Prop):Prop:=
  ∃(n:Nat)(xS:TypeId)(k:IntKind)(sz m:Nat)(cs:List AV)(sp:Sp),y=.v (.int .i64 n)∧x=.sl sz m cs sp∧P.underlying xT=some (.int k)∧P.underlying xS=some .string∧
    bo P e=some [.v (.int .u8 0)]∧P.cellsOf e=1∧P.bytesOf e=1∧n≤2^45∧m≤2^45∧fS P e x n (List.replicate n (ae 0)) s K
theorem D0{x y:AV}{u v:Value}{T xT e:TypeId}{K:AV→AS→Prop}(hT:P.underlying T=some (.slice e))(h:DZ P e xT x y s K)(ph:av G x u)(wz:av G y v)(hs:aQ Γ G s w)(ty:TypeId):
    ∃G' z w' r s',(Builtin.append_ #[T,xT] ty #[u,v]).run P w=.ok z w'∧G.le G'∧aQ Γ G' s' w'∧av G' r z∧K r s':=by
  obtain⟨n,xS,k,sz,m,cs,sp,rfl,rfl,hx,hS,hz,hc,hb,hn,hm,ha⟩:=h;simp only[av] at wz;subst wz;have Vj:∃base cap,u=.slice base m cap:=by
    have h:=ph;simp only[av] at h;rcases h with⟨b,off,cap,vs,rfl,_⟩|⟨rfl,_,a,cap,rfl,_⟩|⟨rfl,_,_,rfl⟩
    · exact⟨_,_,rfl⟩
    · exact⟨_,_,rfl⟩
    · exact⟨_,_,rfl⟩
  obtain⟨base,cap,rfl⟩:=Vj;rw[rH hT hx hS hz hc hb hn hm ty];have eO:im (P.cellsOf e) s (.v (.string ⟨(List.replicate n (0:UInt8)).toArray⟩))=some (n,List.replicate n (ae 0)):=by
    rw[hc];simp only[im,if_true];congr 1;have e1:(⟨(List.replicate n (0:UInt8)).toArray⟩:ByteArray).size=n:=(by simp[ByteArray.size]);rw[e1];simp
  exact qP (y:=.v (.string ⟨(List.replicate n (0:UInt8)).toArray⟩)) hT (by unfold kR;simp[hS]) ⟨hz,by omega,by rw[hc];rfl⟩ eO ha ph rfl hs ty
end Go.AM
namespace Go.AM
open Go Go.RowKit
variable{P:Program}{Γ:Nat→List AV}{G:Gh}{s:AS}{w:World}
def aj(P:Program)(Γ:Nat→List AV)(f:FuncId)(args:List AV)(s:AS)(ca:AV→AS→Prop):Prop:=
  ∀(G:Gh)(w:World)(vs:List Value),aQ Γ G s w→ar G args vs→
    Calls P f vs.toArray w fun e w'=>∃G' r v s',e=.returned v∧G.le G'∧aQ Γ G' s' w'∧av G' r v∧ca r s'
theorem aj.mono{f:FuncId}{args:List AV}{s:AS}{Q R:AV→AS→Prop}(h:aj P Γ f args s Q)(k:∀r s',Q r s'→R r s'):aj P Γ f args s R:=
  fun G w vs hs hv=>(h G w vs hs hv).mono fun _ _ ⟨G',r,v,s',h1,h2,h3,h4,h5⟩=>⟨G',r,v,s',h1,h2,h3,h4,k r s' h5⟩
def AV.aE(a b:AV):Prop:=∀G v,av G a v→av G b v
theorem AV.aE.refl(a:AV):a.aE a:=fun _ _ h=>h
theorem AV.bN{sz n:Nat}{cs:List AV}{sp:Sp}:(AV.sl sz n cs sp).aE (.sl sz n cs .any):=by
  intro G v h;simp only[av] at h⊢;rcases h with⟨b,off,cap,vs,h1,h2,h3,h4,h5,_⟩|⟨h1,h2,a,cap,h3,_⟩|⟨h1,h2,_,h3⟩
  · exact .inl ⟨b,off,cap,vs,h1,h2,h3,h4,h5,trivial⟩
  · exact .inr (.inl ⟨h1,h2,a,cap,h3,by simp⟩)
  · exact .inr (.inr ⟨h1,h2,by simp,h3⟩)
theorem AV.aM{sz:Nat}:(AV.v (.slice none 0 0)).aE (.sl sz 0 [] .any):=by
  intro G v h;simp only[av] at h⊢;exact .inr (.inr ⟨by simp,by simp,by simp,h⟩)
theorem AV.Ou{sz n:Nat}{cs:List AV}{sp:Sp}(ha:sp.isAny=false):(AV.sl sz n cs sp).aE (.sl sz n cs .no):=by
  intro G v h;simp only[av] at h⊢;rcases h with⟨b,off,cap,vs,h1,h2,h3,h4,h5,_⟩|⟨h1,h2,a,cap,h3,_⟩|⟨h1,h2,h3,_⟩
  · exact .inl ⟨b,off,cap,vs,h1,h2,h3,h4,h5,trivial⟩
  · exact .inr (.inl ⟨h1,h2,a,cap,h3,by simp⟩)
  · subst h3;cases ha
theorem av.any{G:Gh}{sz n:Nat}{cs:List AV}{v:Value}(h:av G (.sl sz n cs .any) v):(n=0∧cs=[]∧av G (.v (.slice none 0 0)) v)∨av G (.sl sz n cs .no) v:=by
  simp only[av] at h⊢;rcases h with⟨b,off,cap,vs,h1,h2,h3,h4,h5,_⟩|⟨h1,h2,a,cap,h3,_⟩|⟨h1,h2,_,h3⟩
  · exact .inr (.inl ⟨b,off,cap,vs,h1,h2,h3,h4,h5,trivial⟩)
  · exact .inr (.inr (.inl ⟨h1,h2,a,cap,h3,by simp⟩))
  · exact .inl ⟨h1,h2,h3⟩
theorem AS.le.refl(s:AS):s.le s:=⟨fun _ _ h=>h,fun _ _ h=>h⟩
theorem AS.le.trans{a b c:AS}(h:a.le b)(k:b.le c):a.le c:=⟨fun o cs x=>k.aw o cs (h.aw o cs x),fun t e x=>k.own t e (h.own t e x)⟩
theorem AS.aF{s s':AS}(h:s.le s'){o:Nat}(ho:s.aw o=none)(cs:List AV):s.le (s'.set o cs):=by
  refine⟨fun o' cs' hc=>?_,h.own⟩;by_cases e:o'=o
  · subst e;rw[ho] at hc;cases hc
  · simp[AS.set,aB,e];exact h.aw o' cs' hc
theorem AS.bn{s s':AS}(h:s.le s'){t:Nat}(ht:s.own t=none)(g:Nat):s.le (s'.bA t g):=by
  refine⟨h.aw,fun t' e' he=>?_⟩;by_cases e:t'=t
  · subst e;rw[ht] at he;cases he
  · simp[AS.bA,aB,e];exact h.own t' e' he
theorem AS.qj{s s':AS}(h:s.le s'){o:Nat}(ho:s.aw o=none):s.le (s'.drop o):=by
  refine⟨fun o' cs' hc=>?_,h.own⟩;by_cases e:o'=o
  · subst e;rw[ho] at hc;cases hc
  · simp[AS.drop,aB,e];exact h.aw o' cs' hc
def ai(P:Program)(k:FuncId):Bool:=
  match P.funcs[k]? with
  | some fn=>fn.name != "runtime.NumGoroutine" && fn.body.isSome
  |none=>false
def dj(P:Program)(Γ:Nat→List AV)(ρ:Operand→AV)(s:AS)(K:AV→AS→Prop):Op→Prop
  |.load T x=>
    match ρ x with
    |.ptr o off=>
      match s.aw o with
      |some cs=>P.cellsOf T≠0∧(match oC P T (cs.drop off) with |some v=>K v s|none=>False)
      |none=>False
    |_=>False
  |.store T a x=>
    match ρ a with
    |.ptr o off=>
      match s.aw o with
      |some cs=>P.cellsOf T≠0∧(ρ x).cells.length=P.cellsOf T∧off+(ρ x).cells.length≤cs.length∧(ρ x).cells.all AV.one=true∧K (.v undef) (s.set o (bp cs off (ρ x).cells))
      |none=>False
    |_=>False
  |.alloc T=>match bo P T with |some z=>∀o,s.aw o=none→K (.ptr o 0) (s.set o z)|none=>False
  |.box _ x=>∀o,s.aw o=none→K (.ptr o 0) (s.set o (ρ x).cells)
  |.makeSlice T l c=>
    match P.underlying T,ρ l,ρ c with
    |some (.slice e),.v (.int _ n),.v (.int _ m)=>
      match bo P e with
      |some z=>0≤n∧m=n∧P.bytesOf e*n≤2^46∧n≤2^46∧P.cellsOf e≠0∧z.length=P.cellsOf e∧
          ∀o,s.aw o=none→K (.ig o 0 (P.cellsOf e) n.toNat n.toNat) (s.set o (nG (n.toNat*P.cellsOf e) z))
      |none=>False
    |_,_,_=>False
  |.call {callee:=.builtin .append,args,argTypes}=>
    match args.toList,argTypes.toList with
    |[x,y],[T,xT]=>
      match P.underlying T with
      |some (.slice e)=>
        match bo P e,im (P.cellsOf e) s (ρ y) with
        |some z,some (m,ds)=>kR P (some xT)=true∧P.cellsOf e≠0∧z.length=P.cellsOf e∧fS P e (ρ x) m ds s K
        |_,_=>DZ P e xT (ρ x) (ρ y) s K
      |_=>False
    |_,_=>False
  |.call {callee:=.builtin .copy,args,argTypes}=>
    match args.toList,argTypes.toList with
    |[x,y],[T,_]=>
      match P.underlying T with
      |some (.slice e)=>
        match im (P.cellsOf e) s (ρ y),ρ x with
        |some (m,ds),.ig o off _ n _=>
          match s.aw o with
          |some cs=>P.cellsOf e≠0∧ds.all AV.one=true∧off+min m n*P.cellsOf e≤cs.length∧
              K (.v (.int .i64 ((min m n:Nat):Int))) (s.set o (bp cs off (ds.take (min m n*P.cellsOf e))))
          |none=>False
        |_,_=>False
      |_=>False
    |_,_=>False
  |.call {callee:=.value f,args,.. }=>
    match ρ f with
    |.v (.func (.func k) first cg)=>first.isEmpty=true∧cg.isEmpty=true∧ai P k=true∧aj P Γ k (args.toList.map ρ) s K
    |.qE k cg=>ai P k=true∧aj P Γ k (args.toList.map ρ++cg) s K
    |_=>False
  |_=>False
def cc(P:Program)(Γ:Nat→List AV)(ρ:Operand→AV)(s:AS)(K:AV→AS→Prop)(op:Op):Prop:=
  match cL P ρ op with
  |some r=>K r s
  |none=>dj P Γ ρ s K op
def dp(P:Program)(Γ:Nat→List AV)(G:Gh)(K:AV→AS→Prop):Result Next→Prop
  |.ok (.value v) w'=>∃G' r s',G.le G'∧aQ Γ G' s' w'∧av G' r v∧K r s'
  |.ok .skip w'=>∃G' s',G.le G'∧aQ Γ G' s' w'∧K (.v undef) s'
  |.ok (.enter f args) w'=>Calls P f args w' fun e wA=>∃G' r v s',e=.returned v∧G.le G'∧aQ Γ G' s' wA∧av G' r v∧K r s'
  |_=>False
theorem nN{k:FuncId}(h:ai P k=true)(args:Array Value):(callFunc k args).run P w=.ok (.enter k args) w:=by
  unfold ai at h;split at h
  · rename_i fn hf;simp only[Bool.and_eq_true,bne_iff_ne,ne_eq] at h;obtain⟨h1,h2⟩:=h;have h3:fn.body.isNone=false:=(by cases hb:fn.body<;>simp[hb] at h2⊢);have h4:fn.body≠none:=(by intro e;simp[e] at h2);simp[callFunc,hf,h1,h4]
  · cases h
theorem lg(h:aQ Γ G s w){o b off:Nat}{cs ds:List AV}{us:List Value}(ho:s.aw o=some cs)(hb:G.obj o=some b)(hle:off+ds.length≤cs.length)(hd:ar G ds us):
    (∀j,j<us.length→(w.cell? ⟨b,off+j,none⟩).isSome=true)∧(∀j,j<us.length→w.frozen? ⟨b,off+j,none⟩=false)∧
      aQ Γ G (s.set o (bp cs off ds)) (w.setCells b off us):=by
  have B7:=hd.length;have fp:(∀j,j<us.length→(w.cell? ⟨b,off+j,none⟩).isSome=true)∧(∀j,j<us.length→w.frozen? ⟨b,off+j,none⟩=false):=by
    obtain⟨b',vs,h1,h2,h3,h4⟩:=h.aw o cs ho;rw[hb] at h1;cases h1;have hl:=h2.length;refine⟨fun j hj=>?_,fun j hj=>?_⟩
    · have:=(h4 (off+j) (vs[off+j]'(by omega)) (by simp)).1;simp[this]
    · exact(h4 (off+j) (vs[off+j]'(by omega)) (by simp)).2.1
  refine⟨fp.1,fp.2,?_⟩;clear fp;induction ds generalizing us s w cs off with
  |nil=>
    simp only[ar] at hd;subst hd;simp only[bp,World.setCells];have :s.set o cs=s:=by
      cases s with
      |mk aw own=>
        simp only[AS.set,AS.mk.injEq,and_true];funext i;simp only[aB];split
        · rename_i e;subst e;exact ho.symm
        · rfl
    rw[this];exact h
  |cons d ds ih=>
    simp only[ar] at hd;obtain⟨u,wu,rfl,hu,QY⟩:=hd;simp only[List.length_cons] at hle;obtain⟨_,_,h1⟩:=h.setCell ho hb (i:=off) (by omega) hu;simp only[bp,World.setCells];have:=ih (s:=s.set o (cs.set off d)) (w:=w.setCell ⟨b,off,none⟩ u) (cs:=cs.set off d) (off:=off+1) (us:=wu) h1 (by simp[AS.set]) (by simp;omega) QY QY.length;have e:(s.set o (cs.set off d)).set o (bp (cs.set off d) (off+1) ds)=s.set o (bp (cs.set off d) (off+1) ds):=by
      simp only[AS.set,AS.mk.injEq,and_true];funext i;simp only[aB];split <;>rfl
    rw[e] at this;exact this
theorem zI(h:aQ Γ G s w){T:TypeId}{o off:Nat}{cs:List AV}{x:AV}{u a:Value}(ho:s.aw o=some cs)(ha:av G (.ptr o off) a)(hz:P.cellsOf T≠0)(fa:x.cells.length=P.cellsOf T)
    (hle:off+x.cells.length≤cs.length) (h1:x.cells.all AV.one=true) (hx:av G x u):
    ∃w',(Instr.storeAt T a u).run P w=.ok () w'∧aQ Γ G (s.set o (bp cs off x.cells)) w':=by
  simp only[av] at ha;obtain⟨b,hb,rfl⟩:=ha;have hv:=lG hx;have hl:=hv.length;obtain⟨f1,f2,f3⟩:=lg h ho hb hle hv;have gS:=run_storeCells_cells (P:=P) b off u.cells.toList 0 w (by simpa using f1) (by simpa using f2) (lJ hv h1);refine⟨_,?_,f3⟩;simp only[Nat.add_zero] at gS;have xbN:u.cells.size=P.cellsOf T:=(by simp at hl;omega);simp[Instr.storeAt,Instr.sureAddr,storeVar,aS hz,xbN,gS]
theorem dE{K:AV→AS→Prop}{x:Sem Value}(h:∃G' v w' r s',x.run P w=.ok v w'∧G.le G'∧aQ Γ G' s' w'∧av G' r v∧K r s'):
    dp P Γ G K ((do pure (.value (←x)):Sem Next).run P w):=by
  obtain⟨G',v,w',r,s',h1,h2,h3,h4,h5⟩:=h;simp only[Sem.run_bind,h1,Result.andThen_ok,Sem.run_pure,dp];exact⟨G',r,s',h2,h3,h4,h5⟩
theorem xC{K:AV→AS→Prop}{k:FuncId}{as:List AV}{vs:List Value}(hc:ai P k=true)(h:aj P Γ k as s K)(hs:aQ Γ G s w)(hv:ar G as vs):
    dp P Γ G K ((callFunc k vs.toArray).run P w):=by
  rw[nN hc];exact h G w vs hs hv
theorem Jf{ρ:Operand→AV}{ρ':Operand→Value}{K:AV→AS→Prop}{T:TypeId}{x:Operand}{o:Oper}(ho:o.op=.load T x)(h:dj P Γ ρ s K (.load T x))(hρ:∀x,av G (ρ x) (ρ' x))(hs:aQ Γ G s w):
    dp P Γ G K ((execOp ρ' o).run P w):=by
  simp only[dj] at h;have hx:=hρ x;split at h
  · rename_i ob off hc;rw[hc] at hx;split at h
    · rename_i cs FW;obtain⟨hz,h⟩:=h;split at h
      · rename_i v hl;simp only[av] at hx;obtain⟨b,hb,hu⟩:=hx;obtain⟨b',vs,h1,h2,h3,h4⟩:=hs.aw ob cs FW;rw[hb] at h1;cases h1;obtain⟨z,q1,q2⟩:=nI (w:=w) hl hz (h2.drop off) (b:=b) (off:=off) (fun j u hj=>by
          rw[cI];rw[List.getElem?_drop] at hj;exact(h4 _ _ hj).1)
        have e:execOp ρ' o=(do pure (.value (←Instr.loadAt T (ρ' x)))):=(by simp only[execOp,ho]);rw[e];exact dE ⟨G,z,w,v,s,by simp only[hu,Instr.loadAt,Instr.sureAddr,Sem.run_bind,Sem.run_pure,Result.andThen_ok,q1],.refl G,hs,q2,h⟩
      · exact h.elim
    · exact h.elim
  · exact h.elim
theorem Ge{ρ:Operand→AV}{ρ':Operand→Value}{K:AV→AS→Prop}{T:TypeId}{x y:Operand}{o:Oper}(ho:o.op=.store T x y)(h:dj P Γ ρ s K (.store T x y))(hρ:∀x,av G (ρ x) (ρ' x))(hs:aQ Γ G s w):
    dp P Γ G K ((execOp ρ' o).run P w):=by
  simp only[dj] at h;have hx:=hρ x;split at h
  · rename_i ob off hc;rw[hc] at hx;split at h
    · rename_i cs FW;obtain⟨hz,h1,h2,h3,h4⟩:=h;obtain⟨w',q1,q2⟩:=zI (P:=P) hs FW hx hz h1 h2 h3 (hρ y);have e:execOp ρ' o=(do Instr.storeAt T (ρ' x) (ρ' y);pure .skip):=(by simp only[execOp,ho]);rw[e];simp only[Sem.run_bind,q1,Result.andThen_ok,Sem.run_pure,dp];exact⟨G,_,.refl G,q2,h4⟩
    · exact h.elim
  · exact h.elim
theorem D1{K:AV→AS→Prop}{cs:List AV}{T:TypeId}{v:Value}(h:∀o,s.aw o=none→K (.ptr o 0) (s.set o cs))(hv:ar G cs v.cells.toList)(hs:aQ Γ G s w):
    dp P Γ G K ((do pure (.value (←(do pure (.pointer (some (←newVar T v))):Sem Value))):Sem Next).run P w):=by
  obtain⟨o,h1,h2,h3,h4⟩:=hs.newObj hv T;refine dE ⟨_,.pointer (some ⟨w.heap.size,0,none⟩),_,_,_,?_,h2,h3,?_,h o h1⟩
  · simp[newVar,newRow]
  · simp only[av];exact⟨_,h4,rfl⟩
theorem Gf{ρ:Operand→AV}{ρ':Operand→Value}{K:AV→AS→Prop}{T:TypeId}{o:Oper}(ho:o.op=.alloc T)(h:dj P Γ ρ s K (.alloc T))(hs:aQ Γ G s w):
    dp P Γ G K ((execOp ρ' o).run P w):=by
  simp only[dj] at h;split at h
  · rename_i z hz;obtain⟨v,hv,rfl⟩:=dD hz;have:=D1 (P:=P) (T:=T) (v:=v) h (ar.DK _) hs;have e:(execOp ρ' o).run P w=(do pure (.value (←(do pure (.pointer (some (←newVar T v))):Sem Value))):Sem Next).run P w:=by
      simp[execOp,ho,Instr.alloc,hv]
    rw[e];exact this
  · exact h.elim
theorem KC{ρ:Operand→AV}{ρ':Operand→Value}{K:AV→AS→Prop}{T:TypeId}{x:Operand}{o:Oper}(ho:o.op=.box T x)(h:dj P Γ ρ s K (.box T x))(hρ:∀x,av G (ρ x) (ρ' x))(hs:aQ Γ G s w):
    dp P Γ G K ((execOp ρ' o).run P w):=by
  simp only[dj] at h;have:=D1 (P:=P) (T:=T) (v:=ρ' x) h (lG (hρ x)) hs;have e:(execOp ρ' o).run P w=(do pure (.value (←(do pure (.pointer (some (←newVar T (ρ' x)))):Sem Value))):Sem Next).run P w:=by
    simp[execOp,ho,Instr.box]
  rw[e];exact this
theorem xD{ρ:Operand→AV}{ρ':Operand→Value}{K:AV→AS→Prop}{T:TypeId}{x y:Operand}{o:Oper}(ho:o.op=.makeSlice T x y)(h:dj P Γ ρ s K (.makeSlice T x y))(hρ:∀x,av G (ρ x) (ρ' x))(hs:aQ Γ G s w):
    dp P Γ G K ((execOp ρ' o).run P w):=by
  simp only[dj] at h;have hx:=hρ x;have hy:=hρ y;split at h
  · rename_i e k n k' m hu hc QT;rw[hc] at hx;rw[QT] at hy;simp only[av] at hx hy;split at h
    · rename_i z hz;obtain⟨v,hv,rfl⟩:=dD hz;obtain⟨h0,rfl,h1,h2,h3,h4,h5⟩:=h;have fa:v.cells.size=P.cellsOf e:=(by simpa using h4);have cY:v.cells.toList≠[]:=by
        intro e';rw[e'] at h4;simp at h4;omega
      obtain⟨ob,q1,q2,q3,q4⟩:=hs.newObj (rF (G:=G) (m.toNat*P.cellsOf e) cY) e;obtain⟨i,hi⟩:=eZ h3;have hb:P.bytesOf e=i.bytes:=(by simp[Program.bytesOf,hi]);rw[hb] at h1;have hw:IntKind.i64.wrap m=m:=IntWalk.i64_in m (by omega);refine(show execOp ρ' o=(do pure (.value (←Instr.makeSlice T (ρ' x) (ρ' y)))) by simp only[execOp,ho]) ▸ dE ⟨_,.slice (some ⟨w.heap.size,0,none⟩) m.toNat m.toNat,_,_,_,?_,q2,q3,?_,h5 ob q1⟩
      · have c1:¬(m<0):=(by omega);have c2:¬(281474976710656<(i.bytes:Int)*m):=(by omega);have FX:Array.range 0= #[]:=rfl;have kF:(Array.range (m.toNat*P.cellsOf e)).map (fun j=>v.cells[j%v.cells.size]!)=((List.range (m.toNat*P.cellsOf e)).map fun i=>v.cells.toList.toArray[i%v.cells.toList.toArray.size]!).toArray:=by
          apply Array.ext';simp
        by_cases sP:m.toNat*P.cellsOf e=0
        · have xaH:(Array.range (m.toNat*P.cellsOf e)).map (fun j=>(#[]:Array Value)[j%(#[]:Array Value).size]!)=((List.range (m.toNat*P.cellsOf e)).map fun i=>v.cells.toList.toArray[i%v.cells.toList.toArray.size]!).toArray:=by
            rw[sP];simp
          have HP:(typeInfo e).run P w=.ok i w:=(by simp[typeInfo,hi]);simp only[Instr.makeSlice,Sem.run_bind,run_underlying hu,hx,hy,asInt,asIntOf,Sem.run_pure,Result.andThen_ok,HP,hw];simp[c1,c2,aS h3,sP,newRow,FX]
        · have HP:(typeInfo e).run P w=.ok i w:=(by simp[typeInfo,hi]);simp only[Instr.makeSlice,Sem.run_bind,run_underlying hu,hx,hy,asInt,asIntOf,Sem.run_pure,Result.andThen_ok,HP,hw];simp only[c1,c2,aS h3,sP,newRow,hv,kF,decide_false,Bool.false_or,Bool.false_eq_true,if_false,Sem.run_bind,Sem.run_pure,Result.andThen_ok,run_askRoom,run_newObj_alloc,gt_iff_lt,Int.lt_irrefl,show((2:Int)^48)=281474976710656 from rfl,decide_true,Bool.true_or]
      · simp only[av];exact⟨_,q4,rfl,Nat.le_refl _⟩
    · exact h.elim
  · exact h.elim
end Go.AM
namespace Go.AM
open Go Go.RowKit
variable{P:Program}{Γ:Nat→List AV}{G:Gh}{s:AS}{w:World}
theorem c7{ρ':Operand→Value}{o:Oper}{b:Builtin}{args:Array Operand}{argTypes:Array TypeId}(ho:o.op=.call {callee:=.builtin b,args,argTypes}):
    execOp ρ' o=builtin b argTypes o.type (args.map fun |.const _=>true|_=>false) (args.map ρ'):=by
  obtain⟨dst,op,type,pos,after,guard⟩:=o;simp only at ho;subst ho;rfl
theorem fe{α:Type}{a:Array α}{x y:α}(h:a.toList=[x,y]):a= #[x,y]:=by
  apply Array.ext';simpa using h
theorem D2{ρ:Operand→AV}{ρ':Operand→Value}{K:AV→AS→Prop}{args:Array Operand}{argTypes:Array TypeId}{o:Oper}(ho:o.op=.call {callee:=.builtin .append,args,argTypes})
    (h:dj P Γ ρ s K (.call {callee:=.builtin .append,args,argTypes})) (hρ:∀x,av G (ρ x) (ρ' x)) (hs:aQ Γ G s w):dp P Γ G K ((execOp ρ' o).run P w):=by
  simp only[dj] at h;split at h
  · rename_i x y T xT ha ht;split at h
    · rename_i e hT;split at h
      · rename_i z m ds hz eO;obtain⟨h1,h2,h3,h4⟩:=h;obtain⟨G',v,w',r,s',q1,q2,q3,q4,q5⟩:=qP hT h1 ⟨hz,h2,h3⟩ eO h4 (hρ x) (hρ y) hs o.type;rw[c7 ho];have e1:=fe ha;have e2:=fe ht;subst e1 e2;simp only[builtin];exact dE ⟨G',v,w',r,s',by simpa using q1,q2,q3,q4,q5⟩
      · obtain⟨G',v,w',r,s',q1,q2,q3,q4,q5⟩:=D0 hT h (hρ x) (hρ y) hs o.type;rw[c7 ho];have e1:=fe ha;have e2:=fe ht;subst e1 e2;simp only[builtin];exact dE ⟨G',v,w',r,s',by simpa using q1,q2,q3,q4,q5⟩
    · exact h.elim
  · exact h.elim
theorem Jg{ρ:Operand→AV}{ρ':Operand→Value}{K:AV→AS→Prop}{args:Array Operand}{argTypes:Array TypeId}{o:Oper}(ho:o.op=.call {callee:=.builtin .copy,args,argTypes})
    (h:dj P Γ ρ s K (.call {callee:=.builtin .copy,args,argTypes})) (hρ:∀x,av G (ρ x) (ρ' x)) (hs:aQ Γ G s w):dp P Γ G K ((execOp ρ' o).run P w):=by
  simp only[dj] at h
  split at h
  · rename_i x y T xT ha ht
    split at h
    · rename_i e hT
      split at h
      · rename_i m ds ob off sz n cap eO hx
        split at h
        · rename_i cs FW
          obtain⟨hz,h1,h2,h3⟩:=h
          have ph:=hρ x
          rw[hx] at ph
          simp only[av] at ph
          obtain⟨b,hb,hu,B3⟩:=ph
          have wz:=hρ y
          -- the source, cut to what is copied
          have key:∃us,ar G (ds.take (min m n*P.cellsOf e)) us∧us.length=min m n*P.cellsOf e∧(Builtin.lenOf (ρ' y)).run P w=.ok m w∧(Builtin.firstCells (P.cellsOf e) (min m n) (ρ' y)).run P w=.ok us.toArray w:=by
            unfold im at eO
            split at eO
            · rename_i hy
              rw[hy] at wz
              split at eO
              · rename_i QV m' ds' sp fa
                subst fa
                cases eO
                simp only[av] at wz
                rcases wz with⟨b2,Sx,xbO,vs,Gg,hl,_,hv,qi,_⟩|⟨rfl,rfl,a,kZ,Gg,_⟩|⟨rfl,rfl,_,Gg⟩
                case inr.inr=>
                  refine⟨[],by simp[ar],by simp,by rw[Gg];rfl,?_⟩
                  rw[Gg]
                  simp[Builtin.firstCells]
                case inr.inl=>
                  refine⟨[],by simp[ar],by simp,by rw[Gg];rfl,?_⟩
                  rw[Gg,Nat.zero_min]
                  exact run_firstCells_some w _ _ _ _ _ [] (by simp) (by simp)
                have hlen:=hv.length
                have hle:min m n*P.cellsOf e≤m*P.cellsOf e:=Nat.mul_le_mul_right _ (Nat.min_le_left _ _)
                refine⟨vs.take (min m n*P.cellsOf e),hv.take _,by simp;omega,by rw[Gg];rfl,?_⟩
                rw[Gg]
                exact run_firstCells_some w _ _ _ _ _ _ (by simp;omega) (fun j v hj=>by
                  rw[cI]
                  rw[List.getElem?_take] at hj
                  split at hj
                  · exact hs.ro _ _ _ (qi j v hj)
                  · cases hj)
              · cases eO
            · rename_i hy
              rw[hy] at wz
              cases eO
              simp only[av] at wz
              rw[wz]
              exact⟨[],by simp[ar],by simp,rfl,by simp[Builtin.firstCells]⟩
            · rename_i hy
              rw[hy] at wz
              split at eO
              · rename_i o2 Sx QV m' xbO fa
                subst fa
                split at eO
                · rename_i Ov zE
                  split at eO
                  · rename_i eW
                    cases eO
                    simp only[av] at wz
                    obtain⟨b2,qQ,Gg,_⟩:=wz
                    obtain⟨b',vs,k1,k2,k3,k4⟩:=hs.aw o2 Ov zE
                    rw[qQ] at k1;cases k1
                    have hlen:=k2.length
                    have hle:min m n*P.cellsOf e≤m*P.cellsOf e:=Nat.mul_le_mul_right _ (Nat.min_le_left _ _)
                    refine⟨((vs.drop Sx).take (m*P.cellsOf e)).take (min m n*P.cellsOf e),((k2.drop Sx).take _).take _,by simp;omega,by rw[Gg];rfl,?_⟩
                    rw[Gg]
                    exact run_firstCells_some w _ _ _ _ _ _ (by simp;omega) (fun j v hj=>by
                      rw[cI]
                      rw[List.getElem?_take] at hj
                      split at hj
                      · rw[List.getElem?_take] at hj
                        split at hj
                        · rw[List.getElem?_drop] at hj
                          exact(k4 _ _ hj).1
                        · cases hj
                      · cases hj)
                  · cases eO
                · cases eO
              · cases eO
            · rename_i hy
              rw[hy] at wz
              split at eO
              · rename_i b2 fa
                cases eO
                simp only[av] at wz
                rw[wz,fa]
                have Gi:b2.data.size=b2.size:=rfl
                refine⟨(dw b2.data.toList).take (min b2.size n*1),(mz _).take _,by simp[dw,Gi],rfl,?_⟩
                simp only[Builtin.firstCells,Sem.run_pure]
                congr 1
                apply Array.ext'
                simp[dw,List.map_take,List.extract_eq_take_drop]
              · cases eO
            · cases eO
          obtain⟨us,hv,hlen,hl,hf⟩:=key
          have QW:=hv.length
          obtain⟨f1,f2,f3⟩:=lg hs FW hb (off:=off) (by omega) hv
          have kG:(ds.take (min m n*P.cellsOf e)).all AV.one=true:=by
            rw[List.all_eq_true] at h1⊢
            exact fun x hx=>h1 x (List.mem_of_mem_take hx)
          have gS:=run_storeCells_cells (P:=P) b off us 0 w (by simpa using f1) (by simpa using f2) (lJ hv kG)
          simp only[Nat.add_zero] at gS
          rw[c7 ho]
          have e1:=fe ha
          have e2:=fe ht
          subst e1 e2
          simp only[builtin]
          refine dE ⟨G,.int .i64 ((min m n:Nat):Int),_,_,_,?_,.refl G,f3,by simp[av],h3⟩
          have Oh:ρ' x=.slice (some ⟨b,off,none⟩) n cap:=hu
          have UE:(Builtin.firstCells (P.cellsOf e) (Nat.min m n) (ρ' y)).run P w=.ok us.toArray w:=hf
          simp[Builtin.copy_,run_underlying hT,Oh,hl,aS hz,UE,gS,goInt]
        · exact h.elim
      · exact h.elim
    · exact h.elim
  · exact h.elim
theorem Jh{ρ:Operand→AV}{ρ':Operand→Value}{K:AV→AS→Prop}{f:Operand}{args:Array Operand}{argTypes:Array TypeId}{o:Oper}(ho:o.op=.call {callee:=.value f,args,argTypes})
    (h:dj P Γ ρ s K (.call {callee:=.value f,args,argTypes})) (hρ:∀x,av G (ρ x) (ρ' x)) (hs:aQ Γ G s w):dp P Γ G K ((execOp ρ' o).run P w):=by
  have e:(args.toList.map ρ').toArray=args.map ρ':=(by apply Array.ext';simp);have KD:=ar.of_map hρ args.toList;simp only[dj] at h;have hf:=hρ f;split at h
  · rename_i k first cg hc
    rw[hc] at hf;simp only[av] at hf;obtain⟨h1,h2,h3,h4⟩:=h;have h1':first = #[]:=by simpa using h1
    have h2':cg= #[]:=(by simpa using h2);subst h1' h2';have:=xC h3 h4 hs KD;rw[e] at this;obtain⟨dst,op,type,pos,after,guard⟩:=o;simp only at ho;subst ho;simpa[execOp,resolve,hf,Deferred.ofValue,invoke] using this
  · rename_i k cg hc;rw[hc] at hf;simp only[av] at hf;obtain⟨vs,hf,hv⟩:=hf;obtain⟨h3,h4⟩:=h;have:=xC h3 h4 hs (KD.append hv);have e2:(args.toList.map ρ'++vs).toArray=args.map ρ'++vs.toArray:=(by apply Array.ext';simp);rw[e2] at this;obtain⟨dst,op,type,pos,after,guard⟩:=o;simp only at ho;subst ho;simpa[execOp,resolve,hf,Deferred.ofValue,invoke] using this
  · exact h.elim
theorem Gj{ρ:Operand→AV}{ρ':Operand→Value}{K:AV→AS→Prop}(o:Oper)(h:dj P Γ ρ s K o.op)(hρ:∀x,av G (ρ x) (ρ' x))(hs:aQ Γ G s w):dp P Γ G K ((execOp ρ' o).run P w):=by
  cases ib:o.op<;>rw[ib] at h<;>try(simp only[dj] at h;done)
  case load T x=>exact Jf ib h hρ hs
  case store T x y=>exact Ge ib h hρ hs
  case alloc T=>exact Gf ib h hs
  case box T x=>exact KC ib h hρ hs
  case makeSlice T x y=>exact xD ib h hρ hs
  case call c=>
    obtain⟨callee,args,argTypes⟩:=c;cases callee with
    |value f=>exact Jh ib h hρ hs
    |invoke r m=>simp only[dj] at h
    |builtin b=>
      cases b<;>try(simp only[dj] at h;done)
      case append=>exact D2 ib h hρ hs
      case copy=>exact Jg ib h hρ hs
theorem km{ρ:Operand→AV}{ρ':Operand→Value}{K:AV→AS→Prop}(o:Oper)(h:cc P Γ ρ s K o.op)(hρ:∀x,av G (ρ x) (ρ' x))(hs:aQ Γ G s w):dp P Γ G K ((execOp ρ' o).run P w):=by
  unfold cc at h;split at h
  · rename_i r hr;obtain⟨G',v,w',h1,h2,h3,h4⟩:=Gc o hr hρ hs;rw[h1];exact⟨G',r,s,h2,h3,h4,h⟩
  · exact Gj o h hρ hs
abbrev Env:=Nat→AV
def aN(Γ:Nat→List AV)(E:Env):Operand→AV
  |.tmp t=>E t
  |.const v=>.v v
  |.global g=>.cN (Γ g)
  |.func f=>.v (.func (.func f) #[] #[])
structure Rel(Γ:Nat→List AV)(N:Nat)(G:Gh)(E:Env)(s:AS)(a:Act)(w:World):Prop where
  st:aQ Γ G s w
  size:a.tmps.size=N
  tmps:∀i,av G (E i) (a.tmps.getD i undef)
  defers:a.defers=G.df
theorem Rel.eval{N:Nat}{E:Env}{a:Act}(h:Rel Γ N G E s a w)(x:Operand):av G (aN Γ E x) (a.eval x):=by
  cases x with
  |tmp t=>exact h.tmps t
  |const v=>simp[aN,Act.eval,av]
  |global g=>
    obtain⟨vs,h1,h2⟩:=h.st.gZ g;simp only[aN,Act.eval,av];exact⟨g,0,vs,rfl,h1,h2⟩
  |func f=>simp[aN,Act.eval,av]
def bw(E:Env):Option Tmp→AV→Env
  |some d,v=>aB E d v
  |none,_=>E
theorem Rel.put{N:Nat}{E:Env}{a:Act}{G':Gh}{s':AS}{w':World}{r:AV}{v:Value}(h:Rel Γ N G E s a w)(hle:G.le G')(hs:aQ Γ G' s' w')(hv:av G' r v){dst:Option Tmp}(hd:∀d,dst=some d→d<N):
    Rel Γ N G' (bw E dst r) s' (a.put dst v) w':=by
  cases dst with
  |none=>exact⟨hs,h.size,fun i=>av.mono hle _ _ (h.tmps i),h.defers.trans hle.df.symm⟩
  |some d=>
    refine⟨hs,by simp[Act.put,h.size],fun i=>?_,h.defers.trans hle.df.symm⟩;simp only[bw,aB,Act.put];split
    · rename_i e;subst e;have :i<a.tmps.size:=(by rw[h.size];exact hd i rfl);simpa[Array.getD,this] using hv
    · rename_i e;have:=av.mono hle _ _ (h.tmps i);simp only[Array.getD_eq_getD_getElem?] at this⊢;rw[Array.getElem?_setIfInBounds_ne (by omega)];exact this
end Go.AM
namespace Go.AM
open Go Go.RowKit
theorem Vk{P:Program}{ρ:Operand→Value}{o:Oper}{w W:World}{v:Value}(h:(execOp ρ o).run P w=.ok (.value v) W):∀c,o.op≠.defer c:=by
  intro c hc;simp only[execOp,hc,Sem.run_bind] at h;cases hh:(resolve ρ c o.type).run P w<;>simp[hh,Result.andThen] at h
def uD(R:Option Nat):Fence:={Fence.wide with round:=R}
variable{rd:Option Nat}{P:Program}{Γ:Nat→List AV}{G:Gh}{s:AS}{w:World}
theorem sR{e:TypeId}{x:AV}{m:Nat}{ds:List AV}{K K':AV→AS→Prop}(hk:∀r s',K r s'→K' r s')(h:fS P e x m ds s K):fS P e x m ds s K':=by
  unfold fS at *
  split at h
  · split at h
    · rename_i hm;rw[if_pos hm];exact hk _ _ h
    · rename_i hm;rw[if_neg hm];exact⟨h.1,h.2.1,fun t ht=>hk _ _ (h.2.2 t ht)⟩
  · split at h
    · rename_i hm;simp only[if_pos hm];exact hk _ _ h
    · rename_i hm;simp only[if_neg hm];obtain⟨h1,h2,h3,h4,h5⟩:=h;refine⟨h1,h2,h3,h4,?_⟩;split at h5
      · exact fun t ht=>hk _ _ (h5 t ht)
      · exact fun t ht=>hk _ _ (h5 t ht)
      · exact⟨h5.1,hk _ _ h5.2⟩
      · exact h5.elim
      · exact h5.elim
  · exact h
theorem Gk{e xT:TypeId}{x y:AV}{K K':AV→AS→Prop}(hk:∀r s',K r s'→K' r s')(h:DZ P e xT x y s K):DZ P e xT x y s K':=by
  obtain⟨n,xS,k,sz,m,cs,sp,h1,h2,h3,h4,h5,h6,h7,h8,h9,ha⟩:=h;exact⟨n,xS,k,sz,m,cs,sp,h1,h2,h3,h4,h5,h6,h7,h8,h9,sR hk ha⟩
theorem Ji{ρ:Operand→AV}{K K':AV→AS→Prop}(hk:∀r s',K r s'→K' r s'):∀{op:Op},dj P Γ ρ s K op→dj P Γ ρ s K' op:=by
  intro op h;cases op<;>try(simp only[dj] at h;done)
  case load T x=>
    simp only[dj] at h⊢;split at h
    · split at h
      · refine⟨h.1,?_⟩;have h2:=h.2;split at h2
        · exact hk _ _ h2
        · exact h2
      · exact h
    · exact h
  case store T x y=>
    simp only[dj] at h⊢;split at h
    · split at h
      · exact⟨h.1,h.2.1,h.2.2.1,h.2.2.2.1,hk _ _ h.2.2.2.2⟩
      · exact h
    · exact h
  case alloc T=>
    simp only[dj] at h⊢;split at h
    · exact fun o ho=>hk _ _ (h o ho)
    · exact h
  case box T x=>
    simp only[dj] at h⊢;exact fun o ho=>hk _ _ (h o ho)
  case makeSlice T x y=>
    simp only[dj] at h⊢;split at h
    · split at h
      · obtain⟨h1,h2,h3,h4,h5,h6,h7⟩:=h;exact⟨h1,h2,h3,h4,h5,h6,fun o ho=>hk _ _ (h7 o ho)⟩
      · exact h
    · exact h
  case call c=>
    obtain⟨callee,args,argTypes⟩:=c;cases callee with
    |value f=>
      simp only[dj] at h⊢;split at h
      · exact⟨h.1,h.2.1,h.2.2.1,h.2.2.2.mono hk⟩
      · exact⟨h.1,h.2.mono hk⟩
      · exact h
    |invoke r m=>simp only[dj] at h
    |builtin b=>
      cases b<;>try(simp only[dj] at h;done)
      case append=>
        simp only[dj] at h⊢;split at h
        · split at h
          · split at h
            · exact⟨h.1,h.2.1,h.2.2.1,sR hk h.2.2.2⟩
            · exact Gk hk h
          · exact h
        · exact h
      case copy=>
        simp only[dj] at h⊢;split at h
        · split at h
          · split at h
            · split at h
              · exact⟨h.1,h.2.1,h.2.2.1,hk _ _ h.2.2.2⟩
              · exact h
            · exact h
          · exact h
        · exact h
theorem jg{ρ:Operand→AV}{K K':AV→AS→Prop}(hk:∀r s',K r s'→K' r s'){op:Op}(h:cc P Γ ρ s K op):cc P Γ ρ s K' op:=by
  unfold cc at *
  split at h
  · exact hk _ _ h
  · exact Ji hk h
def nO(ops:Array Oper)(j:Nat):Option Tmp:=(ops[j]?).bind (·.dst)
def AX(P:Program)(Γ:Nat→List AV)(N:Nat)(ops:Array Oper):List Oper→(Env→AS→Prop)→Env→AS→Prop
  |[],K,E,s=>K E s
  |o::rest,K,E,s=>
    (∀d,o.dst=some d→d<N)∧
    match o.guard with
    |none=>cc P Γ (aN Γ E) s (fun r s'=>AX P Γ N ops rest K (bw E o.dst r) s') o.op
    |some (j,want)=>
      match nO ops j with
      |none=>False
      |some d=>
        match E d with
        |.v (.bool t)=>
          if t=want then cc P Γ (aN Γ E) s (fun r s'=>AX P Γ N ops rest K (bw E o.dst r) s') o.op
          else AX P Γ N ops rest K (bw E o.dst (.v undef)) s
        |.v (.tuple _)=>AX P Γ N ops rest K (bw E o.dst (.v undef)) s
        |_=>False
theorem cW{N:Nat}{ops:Array Oper}:∀(L:List Oper){K K':Env→AS→Prop}{E:Env}{s:AS},(∀E s,K E s→K' E s)→AX P Γ N ops L K E s→AX P Γ N ops L K' E s
  |[],K,K',E,s,hk,h=>hk _ _ h
  |o::L,K,K',E,s,hk,h=>by
    simp only[AX] at h⊢;refine⟨h.1,?_⟩;have h:=h.2;split at h
    · exact jg (fun r s' h=>cW L hk h) h
    · split at h
      · exact h
      · split at h
        · split at h
          · rename_i ht;rw[if_pos ht];exact jg (fun r s' h=>cW L hk h) h
          · rename_i ht;rw[if_neg ht];exact cW L hk h
        · exact cW L hk h
        · exact h
def cC(L:List Oper):List Nat:=L.filterMap (·.dst)
theorem cG{E:Env}{dst:Option Tmp}{r:AV}{i:Nat}(h:dst≠some i):bw E dst r i=E i:=by
  cases dst with
  |none=>rfl
  |some d=>
    have :i≠d:=fun e=>h (by rw[e]);simp[bw,aB,this]
theorem dI{N:Nat}{ops:Array Oper}:∀(L:List Oper){K:Env→AS→Prop}{E:Env}{s:AS},AX P Γ N ops L K E s→AX P Γ N ops L (fun E' s'=>K E' s'∧∀i,i∉cC L→E' i=E i) E s
  |[],K,E,s,h=>⟨h,fun _ _=>rfl⟩
  |o::L,K,E,s,h=>by
    simp only[AX] at h⊢;refine⟨h.1,?_⟩;have h:=h.2;have step:∀(r:AV)(s':AS),AX P Γ N ops L K (bw E o.dst r) s'→AX P Γ N ops L (fun E' s'=>K E' s'∧∀i,i∉cC (o::L)→E' i=E i) (bw E o.dst r) s':=by
      intro r s' h;refine cW L (fun E' s' hE=>⟨hE.1,fun i hi=>?_⟩) (dI L h);have h1:i∉cC L:=fun hm=>hi (by
        simp only[cC,List.filterMap_cons] at hm⊢;split
        · exact hm
        · exact List.mem_cons_of_mem _ hm)
      have h2:o.dst≠some i:=fun e=>hi (by simp[cC,List.filterMap_cons,e]);rw[hE.2 i h1,cG h2]
    split at h
    · exact jg step h
    · split at h
      · exact h
      · split at h
        · split at h
          · rename_i ht;rw[if_pos ht];exact jg step h
          · rename_i ht;rw[if_neg ht];exact step _ _ h
        · exact step _ _ h
        · exact h
theorem Oper.ng{N:Nat}{E:Env}{a:Act}{o:Oper}{K:AV→AS→Prop}{next:Act→World→Prop}{Q:Exit→Act→World→Prop}(hr:Rel Γ N G E s a w)(hd:∀d,o.dst=some d→d<N)
    (h:dp P Γ G K ((execOp a.eval o).run P w)) (hn:∀G' r s' a' w',G.le G'→Rel Γ N G' (bw E o.dst r) s' a' w'→K r s'→next a' w'):o.wpIn (uD rd) 0 P a w next Q:=by
  refine⟨fun _ _=>trivial,?_⟩;have hnd:∀c,o.op≠.defer c:=by
    intro c hc;simp only[execOp,hc,Sem.run_bind] at h;cases hh:(resolve a.eval c o.type).run P w<;>simp[hh,dp,Result.andThen] at h
  rw[Oper.semAt_eq _ _ _ hnd];generalize (execOp a.eval o).run P w=R at h;cases R with
  |ok n w'=>
    cases n<;>simp only[dp] at h;case value v=>
      obtain⟨G',r,s',h1,h2,h3,h4⟩:=h;simp only[Oper.uponIn];exact hn G' r s' _ _ h1 (hr.put h1 h2 h3 hd) h4
    case skip=>
      obtain⟨G',s',h1,h2,h3⟩:=h;simp only[Oper.uponIn];exact hn G' (.v undef) s' _ _ h1 (hr.put h1 h2 (by simp[av]) hd) h3
    case enter f args=>
      simp only[Oper.uponIn];refine⟨(fun e=>by cases e),CallsIn.mono (F:=Fence.wide) (callsIn_wide.2 h) ?_⟩;rintro e wA ⟨G',r,v,s',rfl,h1,h2,h3,h4⟩;exact hn G' r s' _ _ h1 (hr.put h1 h2 h3 hd) h4
  |halt x w'=>simp only[dp] at h
theorem eb{o:Oper}{y:Nat→Option Bool}(h:o.guard=none):Region.wanted o y=true:=by simp[Region.wanted,h]
theorem xE{N:Nat}{E:Env}{a:Act}{ops:Array Oper}{j d:Nat}{t:Bool}(hr:Rel Γ N G E s a w)(hj:nO ops j=some d)(hE:E d=.v (.bool t)):yielded ops a.tmps j=some t:=by
  have:=hr.tmps d;rw[hE] at this;simp only[av] at this;unfold nO at hj;simp only[yielded,hj,Option.bind_some];rw[Array.getD_eq_getD_getElem?] at this;cases hh:a.tmps[d]? with
  |none=>rw[hh] at this;simp[undef] at this
  |some v=>rw[hh] at this;simp at this;rw[this]
theorem sS{N:Nat}{E:Env}{a:Act}{ops:Array Oper}{j d:Nat}{c:Array Value}(hr:Rel Γ N G E s a w)(hj:nO ops j=some d)(hE:E d=.v (.tuple c)):yielded ops a.tmps j=none:=by
  have:=hr.tmps d;rw[hE] at this;simp only[av] at this;unfold nO at hj;simp only[yielded,hj,Option.bind_some];rw[Array.getD_eq_getD_getElem?] at this;cases hh:a.tmps[d]? with
  |none=>rfl
  |some v=>rw[hh] at this;simp at this;rw[this]
theorem jZ{N:Nat}{E:Env}{a:Act}{ops:Array Oper}{i:Nat}{o:Oper}{L:List Oper}{K:Env→AS→Prop}{Q:Exit→Act→World→Prop}{next:Act→World→Prop}(ho:ops[i]? =some o)
    (h:AX P Γ N ops (o::L) K E s) (hr:Rel Γ N G E s a w) (hn:∀G' E' s' a' w',G.le G'→Rel Γ N G' E' s' a' w'→AX P Γ N ops L K E' s'→next a' w'):wpOpIn (uD rd) 0 P ops Q i next a w:=by
  simp only[AX] at h;obtain⟨hd,h⟩:=h;simp only[wpOpIn,ho];split at h
  · rename_i hg;rw[if_pos (eb hg)];exact(Oper.ng hr hd (km o h hr.eval hr.st) fun G' r s' a' w' h1 h2 h3=>hn G' _ s' a' w' h1 h2 h3)
  · rename_i j want hg;split at h
    · exact h.elim
    · rename_i d hj;split at h
      · rename_i t hE;have hy:=xE hr hj hE;have hw:Region.wanted o (yielded ops a.tmps)=(t==want):=(by simp[Region.wanted,hg,hy]);split at h
        · rename_i ht;rw[if_pos (by rw[hw];simpa using ht)];exact(Oper.ng hr hd (km o h hr.eval hr.st) fun G' r s' a' w' h1 h2 h3=>hn G' _ s' a' w' h1 h2 h3)
        · rename_i ht;rw[if_neg (by rw[hw];simpa using ht)];exact⟨fun _ _=>trivial,hn G _ s _ _ (.refl G) (hr.put (.refl G) hr.st (by simp[av]) hd) h⟩
      · rename_i c hE;have hy:=sS hr hj hE;have hw:Region.wanted o (yielded ops a.tmps)=false:=(by simp[Region.wanted,hg,hy]);rw[if_neg (by rw[hw];simp)];exact⟨fun _ _=>trivial,hn G _ s _ _ (.refl G) (hr.put (.refl G) hr.st (by simp[av]) hd) h⟩
      · exact h.elim
theorem lK{N:Nat}{ops:Array Oper}{Q:Exit→Act→World→Prop}{K:Env→AS→Prop}:∀(L:List Oper)(I:List Nat){G:Gh}{E:Env}{s:AS}{a:Act}{w:World},I.map (ops[·]?)=L.map some→AX P Γ N ops L K E s→Rel Γ N G E s a w→
    (∀G' E' s' a' w',G.le G'→Rel Γ N G' E' s' a' w'→K E' s'→Q .normal a' w')→wpOpsIn (uD rd) 0 P ops Q I a w
  |[],I,G,E,s,a,w,hI,h,hr,hq=>by
    have :I=[]:=(by simpa using hI);subst this;exact hq G E s a w (.refl G) hr h
  |o::L,I,G,E,s,a,w,hI,h,hr,hq=>by
    cases I with
    |nil=>simp at hI
    |cons i I=>
      simp only[List.map_cons,List.cons.injEq] at hI;rw[wpOpsIn_cons];exact jZ hI.1 h hr fun G' E' s' a' w' h1 h2 h3=>lK L I hI.2 h3 h2 fun vF ji ic zJ wA k1 k2 k3=>hq vF ji ic zJ wA (h1.trans k1) k2 k3
def writes:Code→List Nat
  |.region _ ops _=>cC ops.toList
  |.seq a b=>writes a++writes b
  |.cond _ a b=>writes a++writes b
  |.block _ a=>writes a
  |.loop a=>writes a
  |.scope a=>writes a
  |.rangeFunc _ ps a b=>ps.toList++writes a++writes b
  |_=>[]
def ct(P:Program)(Γ:Nat→List AV)(N:Nat)(c:Code)(Q:Exit→Env→AS→Prop)(E:Env)(s:AS):Prop:=
  ∀(G:Gh)(a:Act)(w:World),Rel Γ N G E s a w→∀{rd:Option Nat},
    c.wpIn (uD rd) 0 P (fun e a' w'=>∃G' E' s',G.le G'∧Rel Γ N G' E' s' a' w'∧Q e E' s'∧∀i,i∉writes c→E' i=E i) a w
section rules
variable{N:Nat}{E:Env}{Q:Exit→Env→AS→Prop}
theorem ab(h:Q .normal E s):ct P Γ N .skip Q E s:=fun G a w hr=>wpIn_skip ⟨G,E,s,.refl G,hr,h,fun _ _=>rfl⟩
theorem aC{id:Nat}(h:Q (.exit id) E s):ct P Γ N (.exit id) Q E s:=fun G a w hr=>wpIn_exit ⟨G,E,s,.refl G,hr,h,fun _ _=>rfl⟩
theorem a7(h:Q .ret E s):ct P Γ N .ret Q E s:=fun G a w hr=>wpIn_ret ⟨G,E,s,.refl G,hr,h,fun _ _=>rfl⟩
def aA(next:Env→AS→Prop)(Q:Exit→Env→AS→Prop):Exit→Env→AS→Prop
  |.normal,E,s=>next E s
  |e,E,s=>Q e E s
theorem lh{x y:Code}(h:ct P Γ N x (aA (ct P Γ N y Q) Q) E s):ct P Γ N (.seq x y) Q E s:=by
  intro G a w hr;refine wpIn_seq (wpIn_mono (h G a w hr) ?_);rintro e a' w' ⟨G',E',s',h1,h2,h3,h4⟩;have hw:∀i,i∉writes (.seq x y)→E' i=E i:=fun i hi=>h4 i (fun hm=>hi (by simp[writes,hm]));cases e<;>simp only[Exit.then,aA] at h3⊢;case normal=>
    refine wpIn_mono (h3 G' a' w' h2) ?_;rintro e zJ wA ⟨vF,ji,ic,k1,k2,k3,k4⟩;exact⟨vF,ji,ic,h1.trans k1,k2,k3,fun i hi=>by rw[k4 i (fun hm=>hi (by simp[writes,hm])),hw i hi]⟩
  all_goals exact⟨G',E',s',h1,h2,h3,hw⟩
theorem sT{c:Operand}{x y:Code}{t:Bool}(hc:aN Γ E c=.v (.bool t))(h:ct P Γ N (if t=true then x else y) Q E s):ct P Γ N (.cond c x y) Q E s:=by
  intro G a w hr;have:=hr.eval c;rw[hc] at this;simp only[av] at this;intro rd;refine wpIn_cond this ?_;cases t
  · refine wpIn_mono (h G a w hr) ?_;rintro e a' w' ⟨G',E',s',h1,h2,h3,h4⟩;exact⟨G',E',s',h1,h2,h3,fun i hi=>h4 i (fun hm=>hi (by simp at hm;simp[writes,hm]))⟩
  · refine wpIn_mono (h G a w hr) ?_;rintro e a' w' ⟨G',E',s',h1,h2,h3,h4⟩;exact⟨G',E',s',h1,h2,h3,fun i hi=>h4 i (fun hm=>hi (by simp at hm;simp[writes,hm]))⟩
theorem qR{c:Operand}{x y:Code}(hc:aN Γ E c=.v (.bool true))(h:ct P Γ N x Q E s):ct P Γ N (.cond c x y) Q E s:=sT hc h
theorem fq{c:Operand}{x y:Code}(hc:aN Γ E c=.v (.bool false))(h:ct P Γ N y Q E s):ct P Γ N (.cond c x y) Q E s:=sT hc h
theorem xF{c:Operand}{x y:Code}{t:Bool}(hc:aN Γ E c=.v (.bool t))(h1:t=true→ct P Γ N x Q E s)(h2:t=false→ct P Γ N y Q E s):ct P Γ N (.cond c x y) Q E s:=by
  cases t
  · exact sT hc (h2 rfl)
  · exact sT hc (h1 rfl)
def aq(id:Nat)(Q:Exit→Env→AS→Prop):Exit→Env→AS→Prop
  |.exit id',E,s=>if id'=id then Q .normal E s else Q (.exit id') E s
  |e,E,s=>Q e E s
theorem ag{id:Nat}{c:Code}(h:ct P Γ N c (aq id Q) E s):ct P Γ N (.block id c) Q E s:=by
  intro G a w hr;refine wpIn_block (wpIn_mono (h G a w hr) ?_);rintro e a' w' ⟨G',E',s',h1,h2,h3,h4⟩;cases e<;>simp only[Exit.inBlock,aq] at h3⊢;case exit id'=>
    split at h3
    · rename_i Sy;rw[if_pos Sy];exact⟨G',E',s',h1,h2,h3,h4⟩
    · rename_i Sy;rw[if_neg Sy];exact⟨G',E',s',h1,h2,h3,h4⟩
  all_goals exact⟨G',E',s',h1,h2,h3,h4⟩
theorem nP{id:Nat}{ops:Array Oper}(h:AX P Γ N ops ops.toList (fun E' s'=>Q .normal E' s') E s):ct P Γ N (.region id ops false) Q E s:=by
  intro G a w hr;refine wpIn_region (lK ops.toList _ ?_ (dI _ h) hr ?_)
  · apply List.ext_getElem?;intro i;simp only[List.getElem?_map];by_cases hi:i<ops.size
    · simp[hi]
    · simp[hi]
  · intro G' E' s' a' w' h1 h2 h3;exact⟨G',E',s',h1,h2,h3.1,h3.2⟩
theorem exists_least(p:Nat→Prop)(h:∃n,p n):∃n,p n∧∀m,p m→n≤m:=by
  obtain⟨n,hn⟩:=h;induction n using Nat.strongRecOn with
  |_ n ih=>
    by_cases hm:∃m,m<n∧p m
    · obtain⟨m,h1,h2⟩:=hm;exact ih m h1 h2
    · exact⟨n,hn,fun m h=>Nat.le_of_not_lt fun bJ=>hm ⟨m,bJ,h⟩⟩
theorem aD{c:Code}(I:Env→AS→Prop)(μ:Env→AS→Nat)(h0:I E s)
    (round:∀E' s',I E' s'→(∀i,i∉writes c→E' i=E i)→ct P Γ N c (aA (fun ji ic=>I ji ic∧μ ji ic<μ E' s') Q) E' s'):ct P Γ N (.loop c) Q E s:=by
  intro G a w hr;let Φ:Act→World→Gh→Env→AS→Prop:=fun a w G' E' s'=>G.le G'∧Rel Γ N G' E' s' a w∧I E' s'∧∀i,i∉writes c→E' i=E i;let C:Act→World→Nat→Prop:=fun a w n=>∃G' E' s',Φ a w G' E' s'∧μ E' s'=n;open Classical in
  let ν:Act→World→Nat:=fun a w=>if h:∃n,C a w n then Classical.choose (exists_least _ h) else 0
  intro rd;refine wpIn_loop (fun a w=>∃n,C a w n) ν ⟨_,G,E,s,⟨.refl G,hr,h0,fun _ _=>rfl⟩,rfl⟩ ?_;intro a1 w1 hI;have hν:ν a1 w1=Classical.choose (exists_least _ hI):=(by simp only[ν];rw[dif_pos hI]);obtain⟨G1,E1,s1,⟨g1,g2,g3,g4⟩,g5⟩:=(Classical.choose_spec (exists_least _ hI)).1;refine wpIn_mono (round E1 s1 g3 g4 G1 a1 w1 g2) ?_;rintro e a' w' ⟨G',E',s',h1,h2,h3,h4⟩;have hw:∀i,i∉writes c→E' i=E i:=(fun i hi=>by rw[h4 i hi,g4 i hi]);cases e<;>simp only[Exit.then,aA] at h3⊢;case normal=>
    have hC:∃n,C a' w' n:=⟨_,G',E',s',⟨g1.trans h1,h2,h3.1,hw⟩,rfl⟩;refine⟨hC,?_⟩;have :ν a' w'=Classical.choose (exists_least _ hC):=(by simp only[ν];rw[dif_pos hC]);rw[this,hν,←g5];exact Nat.lt_of_le_of_lt ((Classical.choose_spec (exists_least _ hC)).2 _ ⟨G',E',s',⟨g1.trans h1,h2,h3.1,hw⟩,rfl⟩) h3.2
  all_goals exact⟨G',E',s',g1.trans h1,h2,h3,hw⟩
end rules
end Go.AM
namespace Go.AM
open Go Go.RowKit
variable{P:Program}{Γ:Nat→List AV}{G:Gh}{s:AS}{w:World}
theorem nQ{ρ ρ':Operand→AV}{op:Op}(h:∀x∈op.operands,ρ x=ρ' x):cL P ρ op=cL P ρ' op:=by
  have QZ:∀ps:Array (Nat×Operand),(∀x∈(ps.toList.map (·.2)).toArray,ρ x=ρ' x)→
      (ps.toList.map fun p=>(p.1,ρ p.2))=(ps.toList.map fun p=>(p.1,ρ' p.2)):=fun ps hp=>
    List.map_congr_left fun p hm=>by rw[hp p.2 (by simpa using⟨p.1,by simpa using hm⟩)]
  cases op<;>simp only[Op.operands] at h<;>simp only[cL];case build T ps=>rw[QZ ps h]
  case buildSlice T n ps=>rw[QZ ps h]
  case makeFunc fn first captured=>
    cases fn<;>simp only;rw[List.map_congr_left (l:=captured.toList) fun x hx=>h x (by simp;exact .inr (by simpa using hx))]
  case call c=>
    obtain⟨callee,args,argTypes⟩:=c;cases callee<;>simp only;rw[List.map_congr_left (l:=args.toList) fun x hx=>h x (by simp[Call.operands];simpa using hx)]
  case slice t x lo hi mx=>cases lo<;>cases hi<;>cases mx<;>simp_all
  all_goals(first |rfl|(simp_all;done))
theorem Gl{ρ ρ':Operand→AV}{op:Op}{K:AV→AS→Prop}(h:∀x∈op.operands,ρ x=ρ' x):dj P Γ ρ s K op↔dj P Γ ρ' s K op:=by
  cases op<;>simp only[Op.operands] at h<;>simp only[dj];case call c=>
    obtain⟨callee,args,argTypes⟩:=c;have ha:args.toList.map ρ=args.toList.map ρ':=List.map_congr_left (l:=args.toList) fun x hx=>h x (by
      have :x∈args:=(by simpa using hx);simp[Call.operands,this])
    cases callee with
    |value f=>
      have hf:ρ f=ρ' f:=h f (by simp[Call.operands]);simp only[dj,ha,hf]
    |invoke r m=>simp only[dj]
    |builtin b=>
      cases b<;>simp only[dj];all_goals
        split
        · rename_i x y T xT h1 h2;rw[h1] at ha;simp only[List.map_cons,List.map_nil,List.cons.injEq,and_true] at ha;rw[ha.1,ha.2]
        · exact Iff.rfl
  all_goals(first |exact Iff.rfl|(simp_all;done))
theorem mB{ρ ρ':Operand→AV}{op:Op}{K:AV→AS→Prop}(h:∀x∈op.operands,ρ x=ρ' x):cc P Γ ρ s K op↔cc P Γ ρ' s K op:=by
  unfold cc;rw[nQ h];split
  · exact Iff.rfl
  · exact Gl h
section
variable{N:Nat}{ops:Array Oper}
def bE(P:Program)(Γ:Nat→List AV)(ops:Array Oper)(o:Oper)(E:Env):Option AV:=
  match o.guard with
  |none=>cL P (aN Γ E) o.op
  |some (j,want)=>
    match nO ops j with
    |none=>none
    |some d=>
      match E d with
      |.v (.bool t)=>if t=want then cL P (aN Γ E) o.op else some (.v undef)
      |.v (.tuple _)=>some (.v undef)
      |_=>none
def px(P:Program)(Γ:Nat→List AV)(N:Nat)(ops:Array Oper):List (Oper×Bool)→(Env→AS→Prop)→Env→AS→Prop
  |[],K,E,s=>K E s
  |(o,xd)::rest,K,E,s=>
    if xd=true then AX P Γ N ops [o] (px P Γ N ops rest K) E s
    else(∀d,o.dst=some d→d<N)∧match bE P Γ ops o E with |some v=>px P Γ N ops rest K (bw E o.dst v) s|none=>False
theorem sU:∀(L:List (Oper×Bool)){K K':Env→AS→Prop}{E:Env}{s:AS},(∀E s,K E s→K' E s)→px P Γ N ops L K E s→px P Γ N ops L K' E s
  |[],K,K',E,s,hk,h=>hk _ _ h
  |(o,xd)::L,K,K',E,s,hk,h=>by
    simp only[px] at h⊢;split at h
    · rename_i he;rw[if_pos he];exact cW _ (fun E s h=>sU L hk h) h
    · rename_i he;rw[if_neg he];refine⟨h.1,?_⟩;have h:=h.2;split at h
      · exact sU L hk h
      · exact h
theorem Jj{E:Env}{dst:Option Tmp}{v:AV}{x:Operand}(h:∀d,dst=some d→x≠.tmp d):aN Γ (bw E dst v) x=aN Γ E x:=by
  cases x with
  |tmp t=>
    simp only[aN];exact cG fun e=>h t e rfl
  |const v=>rfl
  |global g=>rfl
  |func f=>rfl
theorem ql{E:Env}{d d':Option Tmp}{v v':AV}(h:∀x,d=some x→d'≠some x):bw (bw E d v) d' v'=bw (bw E d' v') d v:=by
  cases d with
  |none=>rfl
  |some x=>
    cases d' with
    |none=>rfl
    |some y=>
      have :y≠x:=fun e=>h x rfl (by rw[e]);funext i;simp only[bw,aB];by_cases h1:i=y
      · subst h1;simp[this]
      · simp[h1]
theorem zL{o:Oper}{d:Tmp}(h:d∉o.looksAt ops):∀x∈o.op.operands,x≠.tmp d:=by
  intro x hx e;subst e;exact h (List.mem_append_left _ (List.mem_filterMap.2 ⟨.tmp d,by simpa using hx,rfl⟩))
theorem mC{o:Oper}{d:Tmp}{j:Nat}{want:Bool}(h:d∉o.looksAt ops)(hg:o.guard=some (j,want)):nO ops j≠some d:=by
  intro e;refine h (List.mem_append_right _ ?_);simp only[hg];unfold nO at e;rw[e];simp
theorem lL{o:Oper}{E E':Env}(h:∀d,d∈o.looksAt ops→E' d=E d):bE P Γ ops o E'=bE P Γ ops o E:=by
  have ib:∀x∈o.op.operands,aN Γ E' x=aN Γ E x:=fun x hx=>by
    cases x with
    |tmp t=>exact h t (List.mem_append_left _ (List.mem_filterMap.2 ⟨.tmp t,by simpa using hx,rfl⟩))
    |const v=>rfl
    |global g=>rfl
    |func f=>rfl
  unfold bE;split
  · exact nQ ib
  · rename_i j want hg;split
    · rfl
    · rename_i d hj;have :E' d=E d:=h d (by
        by_cases hd:d∈o.looksAt ops
        · exact hd
        · exact absurd hj (mC hd hg))
      rw[this];split
      · split
        · exact nQ ib
        · rfl
      · rfl
      · rfl
theorem uE{o:Oper}{E:Env}{K:Env→AS→Prop}{dst:Option Tmp}{v:AV}(hl:∀d,dst=some d→d∉o.looksAt ops)(hd:∀d,dst=some d→o.dst≠some d):
    AX P Γ N ops [o] K (bw E dst v) s↔AX P Γ N ops [o] (fun E' s'=>K (bw E' dst v) s') E s:=by
  have ib:∀x∈o.op.operands,aN Γ (bw E dst v) x=aN Γ E x:=fun x hx=>Jj fun d h1 h2=>zL (hl d h1) x hx h2;have hc:∀r,bw (bw E dst v) o.dst r=bw (bw E o.dst r) dst v:=fun r=>ql fun x h1 h2=>hd x h1 h2;simp only[AX];refine and_congr_right fun _=>?_;simp only[hc];split
  · exact mB ib
  · rename_i j want hg;split
    · exact Iff.rfl
    · rename_i d hj;have hE:bw E dst v d=E d:=cG fun e=>mC (hl d e) hg hj;rw[hE];split
      · split
        · exact mB ib
        · exact Iff.rfl
      · exact Iff.rfl
      · exact Iff.rfl
theorem dg{o:Oper}{E:Env}{K:Env→AS→Prop}(h:AX P Γ N ops [o] K E s):AX P Γ N ops [o] (fun E' s'=>K E' s'∧∀i,o.dst≠some i→E' i=E i) E s:=by
  refine cW _ (fun E' s' hE=>⟨hE.1,fun i hi=>hE.2 i ?_⟩) (dI [o] h);cases hd:o.dst with
  |none=>simp[cC,hd]
  |some d=>
    have :i≠d:=fun e=>hi (by rw[hd,e]);simp[cC,hd,this]
theorem Gm{o:Oper}{xd:Bool}{L:List (Oper×Bool)}{E:Env}{K:Env→AS→Prop}(h:px P Γ N ops ((o,xd)::L) K E s):AX P Γ N ops [o] (px P Γ N ops L K) E s:=by
  simp only[px] at h;split at h
  · exact h
  · simp only[AX];refine⟨h.1,?_⟩;have h:=h.2;unfold bE at h;cases hg:o.guard with
    |none=>
      simp only[hg] at h;cases hv:cL P (aN Γ E) o.op with
      |none=>simp[hv] at h
      |some v=>simp only[hv] at h;simp only[cc,hv];exact h
    |some p=>
      obtain⟨j,want⟩:=p;simp only[hg] at h;cases hj:nO ops j with
      |none=>simp[hj] at h
      |some d=>
        simp only[hj] at h⊢;split
        · rename_i t hE;simp only[hE] at h;split
          · rename_i ht;simp only[if_pos ht] at h;cases hv:cL P (aN Γ E) o.op with
            |none=>simp[hv] at h
            |some v=>simp only[hv] at h;simp only[cc,hv];exact h
          · rename_i ht;simp only[if_neg ht] at h;exact h
        · rename_i c hE;simp only[hE] at h;exact h
        · rename_i cY D3;split at h
          · rename_i v hv;split at hv
            · rename_i t hE;exact absurd hE (cY t)
            · rename_i c hE;exact absurd hE (D3 c)
            · cases hv
          · exact h
theorem mD{o:Oper}{E:Env}{a:Act}{K:Env→AS→Prop}(h:AX P Γ N ops [o] K E s)(hr:Rel Γ N G E s a w):
    ∃G' E' s' a' w',Rel Γ N G' E' s' a' w'∧K E' s'∧∀i,o.dst≠some i→E' i=E i:=by
  have h':=dg h;clear h;simp only[AX] at h';obtain⟨hd,h⟩:=h';have run:cc P Γ (aN Γ E) s (fun r s'=>K (bw E o.dst r) s'∧∀i,o.dst≠some i→bw E o.dst r i=E i) o.op→∃G' E' s' a' w',Rel Γ N G' E' s' a' w'∧K E' s'∧∀i,o.dst≠some i→E' i=E i:=by
    intro h;have:=km o h hr.eval hr.st;generalize (execOp a.eval o).run P w=R at this;cases R with
    |ok n w'=>
      cases n<;>simp only[dp] at this;case value v=>
        obtain⟨G',r,s',h1,h2,h3,h4⟩:=this;exact⟨G',_,s',_,_,hr.put h1 h2 h3 hd,h4.1,h4.2⟩
      case skip=>
        obtain⟨G',s',h1,h2,h3⟩:=this;exact⟨G',_,s',_,_,hr.put (v:=undef) h1 h2 (by simp[av]) hd,h3.1,h3.2⟩
      case enter f args=>
        obtain⟨e,wA,fr,⟨G',r,v,s',_,h1,h2,h3,h4⟩,_⟩:=this [];exact⟨G',_,s',_,_,hr.put h1 h2 h3 hd,h4.1,h4.2⟩
    |halt x w'=>simp only[dp] at this
  split at h
  · exact run h
  · split at h
    · exact h.elim
    · split at h
      · split at h
        · exact run h
        · exact⟨G,_,s,_,_,hr.put (v:=undef) (.refl G) hr.st (by simp[av]) hd,h.1,h.2⟩
      · exact⟨G,_,s,_,_,hr.put (v:=undef) (.refl G) hr.st (by simp[av]) hd,h.1,h.2⟩
      · exact h.elim
def ft(ops:Array Oper)(x y:Oper):Prop:=x.apart ops y=true
theorem xG{y:Oper}{L2:List (Oper×Bool)}{K:Env→AS→Prop}:∀(L1:List (Oper×Bool)){G:Gh}{E:Env}{s:AS}{a:Act}{w:World},(∀x∈L1,ft ops x.1 y)→px P Γ N ops (L1++(y,false)::L2) K E s→Rel Γ N G E s a w→
    (∀d,y.dst=some d→d<N)∧∃v,bE P Γ ops y E=some v
  |[],G,E,s,a,w,_,h,hr=>by
    simp only[List.nil_append,px,Bool.false_eq_true,if_false] at h;refine⟨h.1,?_⟩;have h:=h.2;split at h
    · rename_i v hv;exact⟨v,hv⟩
    · exact h.elim
  |(x,ex)::L1,G,E,s,a,w,lM,h,hr=>by
    obtain⟨G',E',s',a',w',B8,hK,hf⟩:=mD (Gm h) hr;obtain⟨h1,v,h2⟩:=xG L1 (fun x hx=>lM x (List.mem_cons_of_mem _ hx)) hK B8;refine⟨h1,v,?_⟩;rw[←h2];refine(lL fun d hd=>hf d fun e=>?_).symm;exact(Oper.apart_spec (lM (x,ex) (by simp))).1 d e hd
theorem lN{y:Oper}{L2:List (Oper×Bool)}{K:Env→AS→Prop}{v:AV}:∀(L1:List (Oper×Bool)){E:Env}{s:AS},(∀x∈L1,ft ops x.1 y)→bE P Γ ops y E=some v→px P Γ N ops (L1++(y,false)::L2) K E s→
    px P Γ N ops (L1++L2) K (bw E y.dst v) s
  |[],E,s,_,hv,h=>by
    simp only[List.nil_append,px,Bool.false_eq_true,if_false,hv] at h;exact h.2
  |(x,ex)::L1,E,s,lM,hv,h=>by
    obtain⟨a1,a2,a3⟩:=Oper.apart_spec (lM (x,ex) (by simp));have qF:∀x∈L1,ft ops x.1 y:=fun x hx=>lM x (List.mem_cons_of_mem _ hx);have Q0:∀E':Env,(∀i,x.dst≠some i→E' i=E i)→bE P Γ ops y E'=some v:=fun E' hE=>by
      rw[lL (E:=E) fun d hd=>hE d fun e=>a1 d e hd,hv]
    simp only[List.cons_append,px] at h⊢;split at h
    · rename_i he;rw[if_pos he];refine(uE (fun d hd=>a3 d hd) (fun d hd e=>a2 d e hd)).2 ?_;refine cW _ (fun E' s' hE=>?_) (dg h);exact lN L1 qF (Q0 E' hE.2) hE.1
    · rename_i he;rw[if_neg he];refine⟨h.1,?_⟩;have h:=h.2;rw[lL (E:=E) fun d hd=>cG fun e=>a3 d e hd];split at h
      · rename_i u hu;simp only[hu];rw[ql (fun d h1 h2=>a2 d h2 h1)];exact lN L1 qF (Q0 _ fun i hi=>cG hi) h
      · exact h.elim
theorem qS{y:Oper}{L2:List (Oper×Bool)}{K:Env→AS→Prop}:∀(L1:List (Oper×Bool)){E:Env}{s:AS},(∀x∈L1,ft ops x.1 y∧x.2=false)→px P Γ N ops (L1++(y,true)::L2) K E s→
    AX P Γ N ops [y] (px P Γ N ops (L1++L2) K) E s
  |[],E,s,_,h=>by simpa only[List.nil_append,px,if_true] using h
  |(x,ex)::L1,E,s,lM,h=>by
    obtain⟨KE,hex⟩:=lM (x,ex) (by simp);simp only at hex;subst hex;obtain⟨a1,a2,a3⟩:=Oper.apart_spec KE;have qF:∀x∈L1,ft ops x.1 y∧x.2=false:=fun x hx=>lM x (List.mem_cons_of_mem _ hx);simp only[List.cons_append,px,Bool.false_eq_true,if_false] at h;obtain⟨h0,h⟩:=h;split at h
    · rename_i v hv;have h1:=qS L1 qF h;have h2:=(uE (fun d hd=>a1 d hd) (fun d hd=>a2 d hd)).1 h1;refine cW _ (fun E' s' hE=>?_) (dg h2);simp only[List.cons_append,px,Bool.false_eq_true,if_false];refine⟨h0,?_⟩;rw[lL (E:=E) fun d hd=>hE.2 d fun e=>a3 d e hd,hv];exact hE.1
    · exact h.elim
end
end Go.AM
