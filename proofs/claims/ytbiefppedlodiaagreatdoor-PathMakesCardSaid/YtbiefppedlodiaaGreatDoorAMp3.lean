/- An abstract machine for the model and the rules of its walk, each proved sound over the model; no condition. -/
import Derived.Test.YtbiefppedlodiaaGreatDoorAMp2
import Derived.OpenShut
open Array renaming getD_eq_getD_getElem? -> aR, getElem?_eq_none -> b8, getElem?_eq_some_iff -> ao, replicate -> cb
open BitVec renaming ofInt -> cY, toNat_ofNat -> cI
open Bool renaming and_eq_true -> aw, or_eq_true -> cp
open Classical renaming choose -> cz, choose_spec -> ct
open Go.IntKind renaming bits -> aJ
open Go.IntWalk renaming i64_in -> cq
open Go.Region renaming before -> bx, binds -> cW, ready -> bO
open Go.Result renaming andThen_ok -> aM
open Go.Sem renaming run_bind -> bo, run_pure -> bE
open Int renaming natCast_emod -> dy
open List renaming all_eq_true -> aB, eq_nil_of_length_eq_zero -> al, ext_getElem? -> br, getElem?_map -> aN, map_cons -> aG, mem_cons -> ca, mem_map -> bR, nil_append -> aP, range -> aq
open Nat renaming lt_of_le_of_lt -> bM, lt_or_ge -> ch, mod_eq_of_lt -> aW
open UInt8 renaming ofNat -> az
set_option linter.unusedSimpArgs false
set_option linter.unusedVariables false
namespace Go.AM
open Go Go.RowKit
variable{rd:Option Nat}{P:Program}{Γ:Nat->List AV}{G:Gh}{s:AS}{w:World}
def U7(ops:Array Oper)(D:List Nat)(o:Oper):Nat:=
  o.after.toList.foldl (fun m e=>if cW .any e then m ||| 2^e.on ||| D.getD e.on 0 else m) 0
def Bm(ops:Array Oper)(D:List Nat):Bool:=
  (aq ops.size).all fun i=>
    match ops[i]? with
    |some o=>D.getD i 0==U7 ops D o&&o.after.toList.all fun e=>!Region.binds .any e||decide (e.on<i)
    |none=>true
def Og(ops:Array Oper)(D:List Nat)(fl:List Nat):Bool:=
  (aq ops.size).all fun j=>(aq j).all fun i=>
    match ops[i]?,ops[j]? with
    |some x,some y=>(D.getD j 0).testBit i||(x.apart ops y&& !(fl.contains i&&fl.contains j))
    |_,_=>true
def xq(ops:Array Oper)(fl:List Nat):Bool:=
  Bm ops (bx ops).toList&&Og ops (bx ops).toList fl
theorem yw(D:List Nat)(l:Nat):∀(es:List Edge)(m:Nat),(es.foldl (fun m e=>if cW .any e then m ||| 2^e.on ||| D.getD e.on 0 else m) m).testBit l=true->
    m.testBit l=true∨∃e∈es,cW .any e=true∧(l=e.on∨(D.getD e.on 0).testBit l=true)
  |[],m,h=>.inl h
  |e::es,m,h=>by
    simp only[List.foldl_cons] at h;rcases yw D l es _ h with h1|⟨e',h1,h2⟩
    · split at h1
      · rename_i hb;rw[Nat.testBit_or,Nat.testBit_or] at h1;simp only[cp] at h1;rcases h1 with(h1|h1)|h1
        · exact .inl h1
        · rw[Nat.testBit_two_pow] at h1;exact .inr ⟨e,sM,hb,.inl (of_decide_eq_true h1).symm⟩
        · exact .inr ⟨e,sM,hb,.inr h1⟩
      · exact .inl h1
    · exact .inr ⟨e',by simp[h1],h2⟩
theorem lL{ops:Array Oper}{D:List Nat}(h:Bm ops D=true){i:Nat}{o:Oper}(ho:ops[i]? =some o):
    (∀l,(D.getD i 0).testBit l=true->∃e∈o.after.toList,cW .any e=true∧(l=e.on∨(D.getD e.on 0).testBit l=true))∧∀e∈o.after.toList,cW .any e=true->e.on<i:=by
  unfold Bm at h;rw[aB] at h;have hi:i<ops.size:=by
    rcases ch i ops.size with h'|h'
    · exact h'
    · simp[b8 h'] at ho
  have:=h i (by simpa using hi);simp only[ho,aw,beq_iff_eq,aB] at this;refine⟨fun l hl=>?_,fun e he hb=>?_⟩
  · rw[this.1] at hl;rcases yw D l _ _ hl with h1|h1
    · simp at h1
    · exact h1
  · have:=this.2 e he;simpa[hb] using this
section
variable{N:Nat}{ops:Array Oper}
def left(ops:Array Oper)(listed:Array Bool):List Nat:=(aq ops.size).filter fun i=>!listed.getD i true
theorem mem_left{listed:Array Bool}{i:Nat}:i∈left ops listed↔i<ops.size∧listed.getD i true=false:=by
  simp[left]
def xr(ops:Array Oper)(fl:List Nat)(i:Nat):Oper×Bool:=((ops[i]?).getD default,fl.contains i)
theorem yx{listed:Array Bool}{i:Nat}(hl:listed.size=ops.size)(hi:i<ops.size)(h0:listed.getD i true=false):
    ∃L1 L2,left ops listed=L1++i::L2∧left ops (listed.setIfInBounds i true)=L1++L2∧(∀x∈L1,x<i∧listed.getD x true=false):=by
  have key:∀(n k:Nat),k<=i->i<k+n->
      ∃L1 L2,(List.range' k n).filter (fun i=>!listed.getD i true)=L1++i::L2∧(List.range' k n).filter (fun j=>!(listed.setIfInBounds i true).getD j true)=L1++L2∧(∀x∈L1,x<i∧listed.getD x true=false):=by
    intro n;induction n with
    |zero=>intro k h1 h2;omega
    |succ n ih=>
      intro k h1 h2;rw[List.range'_succ];by_cases hk:k=i
      · subst hk;refine⟨[],(List.range' (k+1) n).filter (fun i=>!listed.getD i true),?_,?_,sM⟩
        · rw[List.filter_cons_of_pos (by simpa using h0)];rfl
        · rw[List.filter_cons_of_neg (by simp[hl,hi])];simp only[aP];apply List.filter_congr;intro x hx;rw[getD_set_ne true (by simp at hx;omega)]
      · obtain⟨L1,L2,q1,q2,q3⟩:=ih (k+1) oM oM;have gP:(listed.setIfInBounds i true).getD k true=listed.getD k true:=getD_set_ne true oM;by_cases hb:listed.getD k true=false
        · refine⟨k::L1,L2,?_,?_,?_⟩
          · rw[List.filter_cons_of_pos (by simpa using hb),q1];rfl
          · rw[List.filter_cons_of_pos (by rw[gP];simpa using hb),q2];rfl
          · intro x hx;rcases ca.1 hx with rfl|hx
            · exact⟨oM,hb⟩
            · exact q3 x hx
        · refine⟨L1,L2,?_,?_,q3⟩
          · rw[List.filter_cons_of_neg (by simpa using hb),q1]
          · rw[List.filter_cons_of_neg (by rw[gP];simpa using hb),q2]
  have:=key ops.size 0 oM oM;simpa[left,List.range_eq_range'] using this
theorem Hi{fl:List Nat}{Q:Exit->Act->World->Prop}{K:Env->AS->Prop}(mR:xq ops fl=true):
    ∀(fuel:Nat)(listed:Array Bool){G:Gh}{E:Env}{s:AS}{a:Act}{w:World},listed.size=ops.size->(left ops listed).length<=fuel->
      (∀(i:Nat)(o:Oper),ops[i]? =some o->listed.getD i true=true->∀e∈o.after.toList,cW .any e=true->listed.getD e.on false=true)->
      u7 P Γ N ops ((left ops listed).map (xr ops fl)) K E s->Rel Γ N G E s a w->
      (∀G' E' s' a' w',G.le G'->Rel Γ N G' E' s' a' w'->K E' s'->Q .normal a' w')->wpAnyIn (yq rd) 0 P .any ops Q fuel listed a w:=by
  simp only[xq,aw] at mR
  obtain⟨Ab,qQ⟩:=mR
  intro fuel
  have wo:∀(listed:Array Bool),bO .any ops listed=[]->left ops listed=[]:=by
    intro listed h
    -- the first that is left could go
    cases hl:left ops listed with
    |nil=>rfl
    |cons i L=>
      exfalso
      have hi:i∈left ops listed:=by rw[hl];simp
      obtain⟨h1,h2⟩:=mem_left.1 hi
      have C0:∀j,j<i->listed.getD j true=true:=by
        intro j hj
        cases Jw:listed.getD j true with
        |true=>rfl
        |false=>
          exfalso
          have Hj:j∈left ops listed:=mem_left.2 ⟨oM,Jw⟩
          have hs:(left ops listed).Pairwise (· < ·):=by
            unfold left
            exact List.Pairwise.filter _ List.pairwise_lt_range
          rw[hl] at hs Hj
          rcases ca.1 Hj with rfl|Hj
          · omega
          · have:=(List.pairwise_cons.1 hs).1 j Hj
            omega
      have ho:ops[i]? =some ops[i]:=by simp[h1]
      have hr:i∈bO .any ops listed:=by
        rw[mem_ready]
        refine⟨h2,_,ho,fun e he hb=>?_⟩
        have fB:=(lL Ab ho).2 e (by simpa using he) hb
        have:=C0 _ fB
        -- both defaults agree where the place is there
        have kv:e.on<listed.size:=by
          rcases ch e.on listed.size with h'|h'
          · exact h'
          · exfalso
            have :listed.getD i true=true:=by
              simp[b8 (show listed.size<=i by omega)]
            rw[h2] at this;cases this
        simpa[kv] using this
      rw[h] at hr
      cases hr
  induction fuel with
  |zero=>
    intro listed G E s a w kv hlen mQ h hr hq
    have hl:left ops listed=[]:=al oM
    have mH:bO .any ops listed=[]:=by
      cases U8:bO .any ops listed with
      |nil=>rfl
      |cons i L=>
        exfalso
        have :i∈bO .any ops listed:=by rw[U8];simp
        rw[mem_ready] at this
        obtain⟨h0,o,ho,_⟩:=this
        have :i∈left ops listed:=mem_left.2 ⟨(ao.1 ho).1,h0⟩
        rw[hl] at this
        cases this
    rw[hl] at h
    exact⟨mH,hq G E s a w (.refl G) hr h⟩
  |succ fuel ih=>
    intro listed G E s a w kv hlen mQ h hr hq
    refine⟨fun mH=>?_,fun i hi=>?_⟩
    · rw[wo listed mH] at h
      exact hq G E s a w (.refl G) hr h
    · obtain⟨h0,o,ho,fG⟩:=mem_ready.1 hi
      have Ac:i<ops.size:=(ao.1 ho).1
      obtain⟨L1,L2,q1,q2,q3⟩:=yx kv Ac h0
      -- what comes before i is done
      have tq:∀(j:Nat)(oj:Oper),ops[j]? =some oj->(∀e∈oj.after.toList,cW .any e=true->listed.getD e.on false=true)->∀l,((bx ops).toList.getD j 0).testBit l=true->listed.getD l false=true:=by
        intro j
        induction j using Nat.strongRecOn with
        |_ j YN=>
          intro oj Ad hj l hl
          obtain⟨d1,d2⟩:=lL Ab Ad
          obtain⟨e,he,hb,h1⟩:=d1 l hl
          have B3:=hj e he hb
          rcases h1 with rfl|h1
          · exact B3
          · have fB:=d2 e he hb
            have YO:e.on<ops.size:=by
              have:=(ao.1 Ad).1
              omega
            have C1:ops[e.on]? =some ops[e.on]:=by simp[YO]
            refine YN e.on fB _ C1 (mQ e.on _ C1 ?_) l h1
            have :e.on<listed.size:=oM
            simpa[this] using B3
      have wG:∀x∈L1,jb ops ((ops[x]?).getD default) o∧¬(fl.contains x=true∧fl.contains i=true):=by
        intro x hx
        obtain⟨YP,Pu⟩:=q3 x hx
        unfold Og at qQ
        rw[aB] at qQ
        have h1:=qQ i (by simpa using Ac)
        rw[aB] at h1
        have h2:=h1 x (by simpa using YP)
        have Xp:ops[x]? =some (ops[x]'oM):=sM
        rw[Xp,ho] at h2
        simp only[cp,aw,Bool.not_eq_true'] at h2
        rcases h2 with h2|⟨h2,h3⟩
        · exfalso
          have:=tq i o ho (fun e he hb=>fG e (by simpa using he) hb) x h2
          have YQ:x<listed.size:=oM
          simp[YQ] at this Pu
          rw[Pu] at this;cases this
        · refine⟨by rw[Xp];exact h2,fun hc=>?_⟩
          rw[hc.1,hc.2] at h3
          cases h3
      have fO:∀{G':Gh}{E':Env}{s':AS}{a':Act}{w':World},G.le G'->u7 P Γ N ops ((L1++L2).map (xr ops fl)) K E' s'->Rel Γ N G' E' s' a' w'->wpAnyIn (yq rd) 0 P .any ops Q fuel (listed.setIfInBounds i true) a' w':=by
        intro G' E' s' a' w' hle hA xo
        refine ih (listed.setIfInBounds i true) (by simpa using kv) ?_ ?_ ?_ xo (fun ya mW mb CX z8 k1 k2 k3=>hq ya mW mb CX z8 (hle.trans k1) k2 k3)
        · rw[q2]
          rw[q1] at hlen
          simp at hlen⊢
          omega
        · intro j oj Ad hj e he hb
          by_cases Hk:j=i
          · subst Hk
            rw[ho] at Ad;cases Ad
            exact getD_set_true (fG e (by simpa using he) hb)
          · rw[getD_set_ne true (Ne.symm Hk)] at hj
            exact getD_set_true (mQ j oj Ad hj e he hb)
        · rw[q2];exact hA
      rw[q1] at h
      simp only[List.map_append,aG] at h fO
      have lJ:xr ops fl i=(o,fl.contains i):=by simp[xr,ho]
      rw[lJ] at h
      cases hf:fl.contains i with
      |false=>
        rw[hf] at h
        have nG:∀x∈L1.map (xr ops fl),jb ops x.1 o:=by
          intro x hx
          obtain⟨j,hj,rfl⟩:=bR.1 hx
          exact(wG j hj).1
        obtain⟨hd,v,hv⟩:=CZ _ nG h hr
        have h1:=qP _ nG hv h
        have hX:u7 P Γ N ops ((o,false)::(L1.map (xr ops fl)++L2.map (xr ops fl))) K E s:=by
          simp only[u7,Bool.false_eq_true,if_false,hv]
          exact⟨hd,h1⟩
        have h2:=Mh hX
        exact l9 (L:=[]) (K:=fun E s=>u7 P Γ N ops (L1.map (xr ops fl)++L2.map (xr ops fl)) K E s) ho h2 hr (fun G' E' s' a' w' k1 k2 k3=>fO k1 k3 k2)
      |true=>
        rw[hf] at h
        have nG:∀x∈L1.map (xr ops fl),jb ops x.1 o∧x.2=false:=by
          intro x hx
          obtain⟨j,hj,rfl⟩:=bR.1 hx
          refine⟨(wG j hj).1,?_⟩
          cases hc:fl.contains j with
          |false=>exact hc
          |true=>exact absurd ⟨hc,hf⟩ (wG j hj).2
        have h2:=wF _ nG h
        exact l9 (L:=[]) (K:=fun E s=>u7 P Γ N ops (L1.map (xr ops fl)++L2.map (xr ops fl)) K E s) ho h2 hr (fun G' E' s' a' w' k1 k2 k3=>fO k1 k3 k2)
def marked(ops:Array Oper)(fl:List Nat):List (Oper×Bool):=(aq ops.size).map (xr ops fl)
theorem Ae:∀(L:List (Oper×Bool)){K:Env->AS->Prop}{E:Env}{s:AS},u7 P Γ N ops L K E s->u7 P Γ N ops L (fun E' s'=>K E' s'∧∀i,i∉fT (L.map (·.1))->E' i=E i) E s
  |[],K,E,s,h=>⟨h,fun _ _=>rfl⟩
  |(o,yb)::L,K,E,s,h=>by
    have rI:∀i,i∉fT (((o,yb)::L).map (·.1))->i∉fT (L.map (·.1))∧o.dst≠some i:=by
      intro i hi;simp only[fT,aG,List.filterMap_cons] at hi;refine⟨fun hm=>hi ?_,fun e=>hi (by simp[e])⟩;simp only[fT] at hm;split
      · exact hm
      · exact List.mem_cons_of_mem _ hm
    simp only[u7] at h⊢;split at h
    · rename_i he;rw[if_pos he];refine gi _ (fun E' s' hE=>?_) (gu h);refine yv L (fun mW mb C2=>⟨C2.1,fun i hi=>?_⟩) (Ae L hE.1);obtain⟨m1,m2⟩:=rI i hi;rw[C2.2 i m1,hE.2 i m2]
    · rename_i he;rw[if_neg he];refine⟨h.1,?_⟩;have h:=h.2;split at h
      · refine yv L (fun mW mb C2=>⟨C2.1,fun i hi=>?_⟩) (Ae L h);obtain⟨m1,m2⟩:=rI i hi;rw[C2.2 i m1,fR m2]
      · exact h
theorem uc{E:Env}{Q:Exit->Env->AS->Prop}(hm:P.follows .mixedOrders=true)(fl:List Nat){id:Nat}(mR:xq ops fl=true)(h:u7 P Γ N ops (marked ops fl) (fun E' s'=>Q .normal E' s') E s):
    fY P Γ N (.region id ops true) Q E s:=by
  intro G a w hr;refine wpIn_region_any hm ?_;have Bn:left ops (cb ops.size false)=aq ops.size:=by
    unfold left;rw[List.filter_eq_self];intro i hi;have :i<ops.size:=(by simpa using hi);simp[this]
  have xo:Rel Γ N G E s a w.drew:=⟨hr.st.drew,hr.size,hr.tmps,hr.defers⟩;refine Hi mR ops.size (cb ops.size false) sM (by rw[Bn];simp) ?_ (by rw[Bn];exact Ae _ h) xo ?_
  · intro i o ho hl;have :i<ops.size:=(ao.1 ho).1;simp[this] at hl
  · intro G' E' s' a' w' h1 h2 h3;refine⟨G',E',s',h1,h2,h3.1,fun i hi=>h3.2 i fun hm=>hi ?_⟩;have :(marked ops fl).map (·.1)=ops.toList:=by
      apply br;intro j;simp only[marked,aN];by_cases hj:j<ops.size
      · simp[hj,xr]
      · simp[hj]
    have JC:i∈fT ((marked ops fl).map (·.1)):=hm;rw[this] at JC;exact JC
end
end Go.AM
namespace Go.AM
open Go Go.RowKit
variable{rd:Option Nat}{P:Program}{Γ:Nat->List AV}{G:Gh}{s:AS}{w:World}
def eV(args:List AV):Env:=fun i=>args.getD i (.v undef)
def iu(P:Program)(E:Env)(s:AS):ResultVar->Option AV
  |.tmp t=>some (E t)
  |.cell a T=>
    match E a with
    |.ptr o off=>
      match s.dD o with
      |some cs=>if P.cellsOf T=0 then none else tY P T (cs.drop off)
      |none=>none
    |_=>none
def fq(P:Program)(E:Env)(s:AS):List ResultVar->Option (List AV)
  |[]=>some []
  |r::rs=>match iu P E s r,fq P E s rs with |some v,some vs=>some (v::vs)|_,_=>none
def kg:List AV->AV
  |[r]=>r
  |rs=>.ka rs
def fe(P:Program)(rs:List ResultVar)(fV:AV->AS->Prop)(E:Env)(s:AS):Prop:=
  match fq P E s rs with
  |some vs=>∃r s',(kg vs).dV r∧s'.le s∧fV r s'
  |none=>False
def fX(P:Program)(rs:List ResultVar)(fV:AV->AS->Prop):Exit->Env->AS->Prop
  |.normal,E,s=>fe P rs fV E s
  |.ret,E,s=>fe P rs fV E s
  |_,_,_=>False
def Rk(tmps:Array Value):ResultVar->Sem Value
  |.tmp t=>pure (tmps.getD t undef)
  |.cell b t=>do loadVar t (<-asAddr (tmps.getD b undef))
theorem qR(fn:Func)(tmps:Array Value):results fn tmps=(do let vs <-fn.results.mapM (Rk tmps);pure (if h:vs.size=1 then vs[0] else .tuple vs)):=by
  unfold results;have :(fun x:ResultVar=>(match x with |.tmp t=>pure (tmps.getD t undef)|.cell a t=>(do loadVar t (<-asAddr (tmps.getD a undef)):Sem Value):Sem Value))=Rk tmps:=by
    funext x;cases x<;>rfl
  rw[<-this];rfl
theorem Rl{N:Nat}{E:Env}{a:Act}(hr:Rel Γ N G E s a w){rv:ResultVar}{v:AV}(h:iu P E s rv=some v):
    ∃z,(Rk a.tmps rv).run P w=.ok z w∧dQ G v z:=by
  cases rv with
  |tmp t=>simp only[iu] at h;cases h;exact⟨_,rfl,hr.tmps t⟩
  |cell b T=>
    simp only[iu] at h;have hb:=hr.tmps b;split at h
    · rename_i o off hE;rw[hE] at hb;split at h
      · rename_i cs LJ;split at h
        · cases h
        · rename_i hz;simp only[dQ] at hb;obtain⟨sZ,YR,hu⟩:=hb;obtain⟨b',vs,h1,h2,h3,h4⟩:=hr.st.dD o cs LJ;rw[YR] at h1;cases h1;obtain⟨z,q1,q2⟩:=tc (w:=w) h hz (h2.drop off) (b:=sZ) (off:=off) (fun j u hj=>by
            rw[gI];rw[List.getElem?_drop] at hj;exact(h4 _ _ hj).1)
          refine⟨z,?_,q2⟩;simp only[Rk];rw[hu];simp[asAddr,q1]
      · cases h
    · cases h
theorem vQ{N:Nat}{E:Env}{a:Act}(hr:Rel Γ N G E s a w):∀{rs:List ResultVar}{vs:List AV},fq P E s rs=some vs->
    ∃zs:List Value,(rs.mapM (Rk a.tmps)).run P w=.ok zs w∧dP G vs zs
  |[],vs,h=>by simp only[fq] at h;cases h;exact⟨[],sM,by simp[dP]⟩
  |r::rs,vs,h=>by
    simp only[fq] at h;split at h
    · rename_i v UF h1 h2;cases h;obtain⟨z,q1,q2⟩:=Rl hr h1;obtain⟨zs,q3,q4⟩:=vQ hr h2;refine⟨z::zs,?_,by simp only[dP];exact⟨z,zs,rfl,q2,q4⟩⟩;simp only[List.mapM_cons,bo,q1,aM,q3,bE]
    · cases h
theorem xt{vs:List AV}{zs:List Value}(h:dP G vs zs):dQ G (kg vs) (if h:zs.toArray.size=1 then zs.toArray[0] else .tuple zs.toArray):=by
  have hl:=h.length;match vs,zs,h with
  |[],[],h=>simp only[kg,dQ];exact⟨[],rfl,h⟩
  |[v],[z],h=>
    simp only[dP] at h;obtain⟨u,us,h1,h2,_⟩:=h;cases h1;simpa[kg] using h2
  |v::v'::vs,z::z'::zs,h=>
    simp only[kg,dQ];exact⟨z::z'::zs,sM,h⟩
  |[],z::zs,h=>simp at hl
  |v::vs,[],h=>simp at hl
  |[v],z::z'::zs,h=>simp at hl
  |v::v'::vs,[z],h=>simp at hl
theorem Pv{f:FuncId}{fn:Func}{c:Code}{args:List AV}{fV:AV->AS->Prop}{s:AS}(hf:P.funcs[f]? =some fn)(hb:fn.body=some c)(hn:args.length<=fn.ntmps)
    (h:fY P Γ fn.ntmps c (fX P fn.results.toList fV) (eV args) s):dS P Γ f args s fV:=by
  intro G w vs hs hv;have Xm:=hv.length;refine calls_of_wp hf hb ?_;have C3:Rel Γ fn.ntmps (G.gQ []) (eV args) s {tmps:=vs.toArray++cb (fn.ntmps-vs.toArray.size) undef,defers:=[]} w:=by
    refine⟨hs.gQ,by simp;omega,fun i=>?_,rfl⟩;simp only[eV];by_cases hi:i<args.length
    · obtain⟨u,h1,h2⟩:=hv.getD i hi;have et:i<vs.length:=oM;rw[aR,Array.getElem?_append_left (by simpa using et)];simp only[List.getElem?_toArray,h1,Option.getD_some];exact dQ.gQ _ _ h2
    · have e1:args.getD i (.v undef)=.v undef:=(by simp[List.getD,List.getElem?_eq_none (Nat.le_of_not_lt hi)]);rw[e1,aR,Array.getElem?_append_right (by simp;omega)];simp only[dQ];cases hh:(cb (fn.ntmps-vs.toArray.size) undef)[i-vs.toArray.size]? with
      |none=>rfl
      |some u=>
        rw[Array.getElem?_replicate] at hh;split at hh
        · cases hh;rfl
        · cases hh
  refine wpIn_wide.1 (wpIn_mono (F:=yq none) (n:=0) (h _ _ w C3) ?_);rintro e a' w' ⟨G',E',s',h1,h2,h3,h4⟩;have fin:fe P fn.results.toList fV E' s'->bodyPost P fn (fun e w'=>∃G' r v s',e=.returned v∧G.le G'∧eo Γ G' s' w'∧dQ G' r v∧fV r s') .normal a' w':=by
    intro hF;unfold fe at hF;split at hF
    · rename_i UF LH;obtain⟨r,s2,q1,q2,q3⟩:=hF;obtain⟨zs,r1,r2⟩:=vQ h2 LH;refine⟨h2.defers.trans h1.df,if h:zs.toArray.size=1 then zs.toArray[0] else .tuple zs.toArray,?_,G'.gQ G.df,r,_,s2,rfl,Gh.CJ h1,(h2.st.mono q2).gQ,dQ.gQ _ _ (q1 _ _ (xt r2)),q3⟩;rw[qR,Array.mapM_eq_mapM_toList];simp only[bo,Sem.run_map,r1,aM,bE]
    · exact hF.elim
  cases e<;>simp only[fX] at h3;case normal=>exact fin h3
  case ret=>exact fin h3
def kx(Γ:Nat->List AV)(N:Nat)(E:Env)(s:AS)(E':Env)(s':AS):Prop:=
  ∀(G:Gh)(a:Act)(w:World),Rel Γ N G E s a w->∃G',G.le G'∧Rel Γ N G' E' s' a w
theorem kx.freeze{N:Nat}{E:Env}{s:AS}{d o off sz n cap:Nat}{cs:List AV}(hE:E d=.jd o off sz n cap)(ho:s.dD o=some cs)(hle:off+n*sz<=cs.length):
    kx Γ N E s (dY E d (.sl sz n ((cs.drop off).take (n*sz)) .no)) (s.drop o):=by
  intro G a w hr;obtain⟨b,vs,h1,h2,h3,h4,h5⟩:=hr.st.freeze ho;refine⟨_,h3,h5,hr.size,fun i=>?_,hr.defers.trans h3.df.symm⟩;simp only[dY];split
  · rename_i e;subst e;have:=hr.tmps i;rw[hE] at this;simp only[dQ] at this;obtain⟨b',k1,k2,k3⟩:=this;rw[h1] at k1;cases k1;have hl:=h2.length;rw[k2];simp only[dQ];refine .inl ⟨b,off,cap,(vs.drop off).take (n*sz),rfl,by simp;omega,k3,dP.mono h3 _ _ ((h2.drop _).take _),?_,trivial⟩;have:=(h4.drop off).take (n*sz);simpa using this
  · exact dQ.mono h3 _ _ (hr.tmps i)
theorem sG{N:Nat}{E:Env}{Q:Exit->Env->AS->Prop}{id:Nat}{ops:Array Oper}
    (h:AX P Γ N ops ops.toList (fun E' s'=>∃mW mb,kx Γ N E' s' mW mb∧(∀i,i∉fT ops.toList->mW i=E' i)∧Q .normal mW mb) E s):fY P Γ N (.region id ops false) Q E s:=by
  intro G a w hr;refine wpIn_region (qN ops.toList _ ?_ (ja _ h) hr ?_)
  · apply br;intro i;simp only[aN];by_cases hi:i<ops.size
    · simp[hi]
    · simp[hi]
  · intro G' E' s' a' w' h1 h2 h3;obtain⟨⟨mW,mb,k1,k2,k3⟩,k4⟩:=h3;obtain⟨ya,q1,q2⟩:=k1 G' a' w' h2;exact⟨ya,mW,mb,h1.trans q1,q2,k3,fun i hi=>by rw[k2 i hi,k4 i hi]⟩
theorem AV.gJ{a b c d:AV}(h:a.dV c)(k:b.dV d):(AV.ka [a,b]).dV (.ka [c,d]):=by
  intro G v hv;simp only[dQ,dP] at hv⊢;obtain⟨vs,rfl,u,us,rfl,h1,u',BW,rfl,h2,rfl⟩:=hv;exact⟨_,rfl,u,_,rfl,h G u h1,u',_,rfl,k G u' h2,rfl⟩
theorem AV.Af{a b c d e f:AV}(h:a.dV d)(k:b.dV e)(l:c.dV f):(AV.ka [a,b,c]).dV (.ka [d,e,f]):=by
  intro G v hv;simp only[dQ,dP] at hv⊢;obtain⟨vs,rfl,u,us,rfl,h1,u',BW,rfl,h2,u'',xjv,rfl,h3,rfl⟩:=hv;exact⟨_,rfl,u,_,rfl,h G u h1,u',_,rfl,k G u' h2,u'',_,rfl,l G u'' h3,rfl⟩
end Go.AM
namespace Go.AM
open Go Go.RowKit
variable{P:Program}{Γ:Nat->List AV}{s:AS}
theorem fm{f:FuncId}{fn:Func}{c:Code}{rs:Array ResultVar}{N:Nat}{args:List AV}{fV:AV->AS->Prop}{s:AS}(hf:P.funcs[f]? =some fn)(hb:fn.body=some c)(hN:fn.ntmps=N)(QW:fn.results=rs)(hn:args.length<=N)
    (h:fY P Γ N c (fX P rs.toList fV) (eV args) s):dS P Γ f args s fV:=by
  subst hN QW;exact Pv hf hb hn h
theorem AS.pj(s:AS)(o:Nat)(cs:List AV):(s.set o cs).dD=dY s.dD o (some cs):=rfl
theorem AS.Pw(s:AS)(t e:Nat):(s.eT t e).dD=s.dD:=rfl
theorem AS.Ag(s:AS)(o:Nat):(s.drop o).dD=dY s.dD o none:=rfl
theorem AS.U9(s:AS)(o:Nat)(cs:List AV):(s.set o cs).own=s.own:=rfl
theorem AS.Bo(s:AS)(t e:Nat):(s.eT t e).own=dY s.own t (some e):=rfl
theorem AS.Rm(s:AS)(o:Nat):(s.drop o).own=s.own:=rfl
theorem AS.set_set(s:AS)(o:Nat)(a b:List AV):(s.set o a).set o b=s.set o b:=by
  simp only[AS.set,AS.mk.injEq,and_true];funext i;simp only[dY];split <;>rfl
def yy(fl:List Nat):Nat->List Oper->List (Oper×Bool)
  |_,[]=>[]
  |k,o::L=>(o,fl.contains k)::yy fl (k+1) L
theorem Gb(fl:List Nat):∀(L:List Oper)(k i:Nat),(yy fl k L)[i]? =(L[i]?).map fun o=>(o,fl.contains (k+i))
  |[],k,i=>by simp[yy]
  |o::L,k,0=>by simp[yy]
  |o::L,k,i+1=>by
    simp only[yy,List.getElem?_cons_succ];rw[Gb fl L (k+1) i,show k+1+i=k+(i+1) from oM]
theorem Gc(ops:Array Oper)(fl:List Nat):marked ops fl=yy fl 0 ops.toList:=by
  apply br;intro i;rw[Gb];simp only[marked,aN,Nat.zero_add];by_cases hi:i<ops.size
  · simp[hi,xr]
  · simp[hi]
section
variable{N:Nat}{E:Env}{Q:Exit->Env->AS->Prop}
theorem awp_seq_k{x y:Code}(h:∀K:Env->AS->Prop,(∀E s,fY P Γ N y Q E s->K E s)->fY P Γ N x (dJ K Q) E s):fY P Γ N (.seq x y) Q E s:=
  oX (h _ fun _ _ h=>h)
theorem C4{id:Nat}{ops:Array Oper}{y:Code}(h:∀K:Env->AS->Prop,(∀E s,fY P Γ N y Q E s->K E s)->AX P Γ N ops ops.toList K E s):fY P Γ N (.seq (.region id ops false) y) Q E s:=
  oX (tn (h _ fun _ _ h=>h))
theorem C5{id:Nat}{ops:Array Oper}(h:∀K:Env->AS->Prop,(∀E s,Q .normal E s->K E s)->AX P Γ N ops ops.toList K E s):fY P Γ N (.region id ops false) Q E s:=
  tn (h _ fun _ _ h=>h)
theorem awp_cond_k{c:Operand}{x y:Code}(h:∀X Y:Prop,(fY P Γ N x Q E s->X)->(fY P Γ N y Q E s->Y)->match ef Γ E c with |.v (.bool t)=>(t=true->X)∧(t=false->Y)|_=>False):fY P Γ N (.cond c x y) Q E s:=by
  have h1:=h _ _ id id;split at h1
  · rename_i t hc;exact CY hc h1.1 h1.2
  · exact h1.elim
theorem Hl(hm:P.follows .mixedOrders=true)(fl:List Nat){id:Nat}{ops:Array Oper}{y:Code}(mR:xq ops fl=true)(h:∀K:Env->AS->Prop,(∀E s,fY P Γ N y Q E s->K E s)->u7 P Γ N ops (yy fl 0 ops.toList) K E s):
    fY P Γ N (.seq (.region id ops true) y) Q E s:=
  oX (uc hm fl mR (by rw[Gc];exact h _ fun _ _ h=>h))
theorem Hm(hm:P.follows .mixedOrders=true)(fl:List Nat){id:Nat}{ops:Array Oper}(mR:xq ops fl=true)(h:∀K:Env->AS->Prop,(∀E s,Q .normal E s->K E s)->u7 P Γ N ops (yy fl 0 ops.toList) K E s):
    fY P Γ N (.region id ops true) Q E s:=
  uc hm fl mR (by rw[Gc];exact h _ fun _ _ h=>h)
end
end Go.AM
namespace Go.AM
open Go Go.RowKit
section
variable{k:IntKind}
theorem pM(h:k.signed=false)(x:Int):k.wrap x=x%(2^k.bits:Nat):=by
  cases k<;>simp[IntKind.signed] at h<;>simp[IntKind.wrap,aJ,IntKind.signed]<;>omega
theorem Ah(h:k.signed=false)(a b:Nat):iY k a b=((a+b)%2^k.bits:Nat):=by
  rw[iY,pM h];push_cast;rfl
theorem Hn(h:k.signed=false)(a b:Nat):mF k a b=((a*b)%2^k.bits:Nat):=by
  rw[mF,pM h];push_cast;rfl
theorem Gd(h:k.signed=false)(a b:Nat)(hb:b<=a)(ha:a<2^k.bits):gR k a b=((a-b:Nat):Int):=by
  rw[gR,pM h,show(a:Int)-b=((a-b:Nat):Int) from oM,<-dy,aW oM]
theorem C6(a:Nat)(n:Nat):cY n (a:Int)=BitVec.ofNat n a:=sM
theorem xu(h:k.signed=false)(a b:Nat)(ha:a<2^k.bits)(hb:b<2^k.bits):rG k a b=((a &&& b:Nat):Int):=by
  rw[rG,pM h,C6,C6,BitVec.toNat_and,cI,cI,aW ha,aW hb,<-dy,aW (bM Nat.and_le_left ha)]
theorem Ge(h:k.signed=false)(a b:Nat)(ha:a<2^k.bits)(hb:b<2^k.bits):L5 k a b=((a ||| b:Nat):Int):=by
  rw[L5,pM h,C6,C6,BitVec.toNat_or,cI,cI,aW ha,aW hb,<-dy,aW (Nat.or_lt_two_pow ha hb)]
theorem Mj(h:k.signed=false)(a b:Nat)(ha:a<2^k.bits)(hb:b<2^k.bits):BX k a b=((a ^^^ b:Nat):Int):=by
  rw[BX,pM h,C6,C6,BitVec.toNat_xor,cI,cI,aW ha,aW hb,<-dy,aW (Nat.xor_lt_two_pow ha hb)]
theorem xv(h:k.signed=false)(a c:Nat):oo k a c=((a*2^(min c k.bits))%2^k.bits:Nat):=by
  rw[oo,pM h];push_cast;simp
theorem nq(a c:Nat):kE k a c=((a/2^(min c k.bits):Nat):Int):=by
  rw[kE,Int.fdiv_eq_ediv_of_nonneg _ (Int.le_of_lt (Int.pow_pos dM))];push_cast;simp
theorem nh(h:k.signed=false)(a:Nat):gq k a=((a%2^k.bits:Nat):Int):=by
  rw[gq,pM h];push_cast;rfl
theorem YS(h:k.signed=false)(a:Nat)(ha:a<2^k.bits):Q9 k a=((2^k.bits-1-a:Nat):Int):=by
  have e:cY k.bits (if k.signed=true then -1 else k.max)=BitVec.allOnes k.bits:=by
    cases k<;>simp[IntKind.signed] at h<;>rfl
  have :(BitVec.allOnes k.bits ^^^ BitVec.ofNat k.bits a).toNat=2^k.bits-1-a:=by
    rw[BitVec.allOnes_xor,BitVec.toNat_not,cI,aW ha]
  rw[Q9,pM h,e,C6,this,<-dy,aW oM]
theorem Rn(h:k.signed=false)(a b:Nat)(ha:a<2^k.bits):nn k a b=((a/b:Nat):Int):=by
  rw[nn,pM h,show(a:Int).tdiv b=((a/b:Nat):Int) from(Int.ofNat_tdiv a b).symm,<-dy,aW (bM (Nat.div_le_self a b) ha)]
theorem mI(a b:Nat):mG a b=((a%b:Nat):Int):=by rw[mG];exact(Int.ofNat_tmod a b).symm
theorem kh{a b:Int}(h: -9223372036854775808<=a+b∧a+b<=9223372036854775807):iY .i64 a b=a+b:=cq _ h
theorem fD{a b:Int}(h: -9223372036854775808<=a-b∧a-b<=9223372036854775807):gR .i64 a b=a-b:=cq _ h
theorem iv{a b:Int}(h: -9223372036854775808<=a*b∧a*b<=9223372036854775807):mF .i64 a b=a*b:=cq _ h
theorem Gf{a:Int}(h: -9223372036854775808<=a∧a<=9223372036854775807):gq .i64 a=a:=cq _ h
end
variable{P:Program}
def G0(w:World):Gh:={ro:=fun b j=>w.cell? ⟨b,j,none⟩,obj:=fun _=>none,tok:=fun _ _=>none,no:=0,nt:=0,B:=w.heap.size,w0:=w,df:=[]}
def s0:AS:=⟨fun _=>none,fun _=>none⟩
theorem eo.start(Γ:Nat->List AV)(w:World)(hg:∀g,∃vs,dP (G0 w) (Γ g) vs∧mT (G0 w) g 0 vs):eo Γ (G0 w) s0 w where
  ro _ _ _ h:=h
  dD o cs h:=by simp[s0] at h
  ib o b h:=by simp[G0] at h
  inj o o' b h:=by simp[G0] at h
  own t e h:=by simp[s0] at h
  gM t e t' e' b st en Cr Cs h:=by simp[s0] at h
  fL t e h:=by simp[s0] at h
  gF o _:=rfl
  fW t _ _:=rfl
  below:=Below.refl _ _
  others:=iA.refl _
  base:=Nat.le_refl _
  nE:=hg
  soft b c T lo hi hb hc:=by
    rcases hb with⟨o,h⟩|⟨t,e,r,h,_⟩
    · simp[G0] at h
    · simp[s0] at h
theorem dS.start{Γ:Nat->List AV}{f:FuncId}{args:List AV}{fV:AV->AS->Prop}(h:dS P Γ f args s0 fV){w:World}{vs:List Value}(hv:dP (G0 w) args vs)
    (hg:∀g,∃vs,dP (G0 w) (Γ g) vs∧mT (G0 w) g 0 vs) (hp:∀r s',fV r s'->r=.v (.bool true)):
    Calls P f vs.toArray w fun e w'=>e=.returned (.bool true)∧Below w.heap.size w w':=by
  refine(h (G0 w) w vs (eo.start Γ w hg) hv).mono ?_;rintro e w' ⟨G',r,v,s',rfl,h1,h2,h3,h4⟩;have hr:=hp r s' h4;subst hr;simp only[dQ] at h3;subst h3;refine⟨rfl,?_⟩;have hb:=h2.below;rw[h1.B,h1.w0] at hb;exact hb
def Γ0:Nat->List AV:=fun _=>[]
end Go.AM
namespace Go.AM
open Go Go.RowKit
def be:Nat->Nat->List UInt8
  |0,_=>[]
  |k+1,n=>az (n/2^(8*k))::be k n
@[simp] theorem ga(k n:Nat):(be k n).length=k:=by
  induction k with
  |zero=>rfl
  |succ k ih=>simp[be,ih]
def eW:AV:=.v (.slice none 0 0)
def dm(l:List UInt8)(sp:Sp):AV:=.sl 1 l.length (l.map cU) sp
def Buf(s0 s:AS)(x:AV)(l:List UInt8):Prop:=
  (x=eW∧l=[])∨∃t e,x=dm l (.own t e)∧s.own t=some e∧s0.own t=none
structure Cv(s0 s:AS)(p:Nat)(l:List UInt8)(bad:Bool):Prop where
  le:s0.le s
  new:s0.dD p=none
  obj:∃x,s.dD p=some [x,.v (.bool bad)]∧Buf s0 s x l
theorem AS.bG(s:AS)(o:Nat)(cs:List AV):(s.set o cs).dD o=some cs:=by simp[AS.set]
theorem AS.iR(s:AS)(t e:Nat):(s.eT t e).own t=some e:=by simp[AS.eT]
theorem Cv.Ho{s0 s:AS}{p:Nat}{l:List UInt8}{bad:Bool}(h:Cv s0 s p l bad){t e:Nat}{m:List UInt8}(b:Bool)(ht:s0.own t=none):Cv s0 ((s.eT t e).set p [dm m (.own t e),.v (.bool b)]) p m b:=
  ⟨AS.dW (AS.eE h.le ht e) h.new _,h.new,_,AS.bG _ _ _,.inr ⟨t,e,rfl,by simp[AS.set,AS.eT],ht⟩⟩
theorem Cv.JD{s0 s:AS}{p:Nat}{l:List UInt8}{bad:Bool}(h:Cv s0 s p l bad){t:Nat}(ht:s.own t=none):s0.own t=none:=by
  cases h0:s0.own t with
  |none=>rfl
  |some e=>rw[h.le.own t e h0] at ht;cases ht
theorem Bp(l:List UInt8):(l.map cU).all AV.one=true:=sM
theorem va(n:Nat):cU (az n)=.v (.int .u8 (gq .u8 (n:Int))):=by
  rw[nh rfl];simp[cU,aJ]
theorem Va(n i:Nat)(hi:i<8):AV.v (.int .u8 (gq .u8 (kE .u64 (n:Int) (8*(i:Int)))))=cU (az (n/2^(8*i))):=by
  have e:(8*(i:Int))=((8*i:Nat):Int):=oM;rw[e,nq,va];have :min (8*i) IntKind.u64.bits=8*i:=(by simp[aJ];omega);rw[this]
theorem Cv.one{s0 s:AS}{p:Nat}{bad:Bool}(h:Cv s0 s p [] bad){t:Nat}(ht:s.own t=none)(b:UInt8):Cv s0 ((s.eT t 0).set p [.sl 1 1 [cU b] (.own t 0),.v (.bool false)]) p [b] false:=
  h.Ho (m:=[b]) false (h.JD ht)
theorem Cv.more{s0 s:AS}{p:Nat}{l:List UInt8}{bad:Bool}(h:Cv s0 s p l bad){t e:Nat}(ht:s0.own t=none)(m:List UInt8){n:Nat}(hn:n=l.length+m.length){cs:List AV}(hc:cs=l.map cU++m.map cU):
    Cv s0 ((s.eT t e).set p [.sl 1 n cs (.own t e),.v (.bool false)]) p (l++m) false:=by
  subst hn hc;have:=h.Ho (t:=t) (e:=e) (m:=l++m) false ht;simpa[dm] using this
end Go.AM
namespace Go.AM
open Go Go.RowKit
variable{P:Program}{Γ:Nat->List AV}{N:Nat}{ops:Array Oper}{K:Env->AS->Prop}{E:Env}{s:AS}
def YT:Op->Bool
  |.call {callee:=.value _,.. }=>true
  |_=>false
theorem Xq:∃f:Program->(Nat->List AV)->Nat->Array Oper->List Oper->(Env->AS->Prop)->Env->AS->Prop,f=AX:=⟨_,rfl⟩
noncomputable def AY:Program->(Nat->List AV)->Nat->Array Oper->List Oper->(Env->AS->Prop)->Env->AS->Prop:=cz Xq
theorem ay:AY=AX:=ct Xq
def Aj(P:Program)(Γ:Nat->List AV)(N:Nat)(ops:Array Oper)(k:FuncId)(as:List AV)(dst:Option Tmp)(rest:List Oper)(K:Env->AS->Prop)(E:Env)(s:AS):Prop:=
  dS P Γ k as s fun r s'=>AY P Γ N ops rest K (eR E dst r) s'
def C7(P:Program)(Γ:Nat->List AV)(N:Nat)(ops:Array Oper)(fv:AV)(as:List AV)(dst:Option Tmp)(rest:List Oper)(K:Env->AS->Prop)(E:Env)(s:AS):Prop:=
  match fv with
  |.v (.func (.func k) first gh)=>first.isEmpty=true∧gh.isEmpty=true∧b7 P k=true∧Aj P Γ N ops k as dst rest K E s
  |.wm k gh=>b7 P k=true∧Aj P Γ N ops k (as++gh) dst rest K E s
  |_=>False
theorem Ml(k:FuncId)(as:List AV)(dst:Option Tmp)(rest:List Oper):C7 P Γ N ops (.v (.func (.func k) #[] #[])) as dst rest K E s=(b7 P k=true∧Aj P Γ N ops k as dst rest K E s):=by
  simp[C7]
theorem Mm(k:FuncId)(gh as:List AV)(dst:Option Tmp)(rest:List Oper):C7 P Γ N ops (.wm k gh) as dst rest K E s=(b7 P k=true∧Aj P Γ N ops k (as++gh) dst rest K E s):=rfl
theorem b6{k:FuncId}{as:List AV}{dst:Option Tmp}{rest:List Oper}{Q:AV->AS->Prop}(h:dS P Γ k as s Q)(hk:∀r s',Q r s'->AY P Γ N ops rest K (eR E dst r) s'):Aj P Γ N ops k as dst rest K E s:=h.mono hk
theorem Ro:AY P Γ N ops [] K E s=K E s:=by rw[ay];rfl
theorem lM{dst:Option Tmp}{op:Op}{ty:TypeId}{pos:String}{after:Array Edge}{rest:List Oper}(_hc:YT op=false):
    AY P Γ N ops ({dst:=dst,op:=op,type:=ty,pos:=pos,after:=after,guard:=none}::rest) K E s=((∀d,dst=some d->d<N)∧fS P Γ (ef Γ E) s (fun r s'=>AY P Γ N ops rest K (eR E dst r) s') op):=by
  simp only[ay,AX]
theorem C8{o:Oper}{rest:List Oper}{j d:Nat}{want t:Bool}(hg:o.guard=some (j,want))(hj:tm ops j=some d)(hE:E d=.v (.bool t)):
    AY P Γ N ops (o::rest) K E s=if t=want then AY P Γ N ops ({o with guard:=none}::rest) K E s else((∀d,o.dst=some d->d<N)∧AY P Γ N ops rest K (eR E o.dst (.v undef)) s):=by
  simp only[ay,AX,hg,hj,hE];split <;>rfl
theorem Vb{dst:Option Tmp}(x:Operand){ty:TypeId}{pos:String}{after:Array Edge}{rest:List Oper}:AY P Γ N ops ({dst:=dst,op:=(.move x),type:=ty,pos:=pos,after:=after,guard:=none}::rest) K E s=((∀d,dst=some d->d<N)∧fS P Γ (ef Γ E) s (fun r s'=>AY P Γ N ops rest K (eR E dst r) s') (.move x)):=lM rfl
theorem Px{dst:Option Tmp}(x:Operand){ty:TypeId}{pos:String}{after:Array Edge}{rest:List Oper}:AY P Γ N ops ({dst:=dst,op:=(.assign x),type:=ty,pos:=pos,after:=after,guard:=none}::rest) K E s=((∀d,dst=some d->d<N)∧fS P Γ (ef Γ E) s (fun r s'=>AY P Γ N ops rest K (eR E dst r) s') (.assign x)):=lM rfl
theorem Vc{dst:Option Tmp}(a b c:Operand){ty:TypeId}{pos:String}{after:Array Edge}{rest:List Oper}:AY P Γ N ops ({dst:=dst,op:=(.pick a b c),type:=ty,pos:=pos,after:=after,guard:=none}::rest) K E s=((∀d,dst=some d->d<N)∧fS P Γ (ef Γ E) s (fun r s'=>AY P Γ N ops rest K (eR E dst r) s') (.pick a b c)):=lM rfl
theorem Rp{dst:Option Tmp}(t:TypeId){ty:TypeId}{pos:String}{after:Array Edge}{rest:List Oper}:AY P Γ N ops ({dst:=dst,op:=(.alloc t),type:=ty,pos:=pos,after:=after,guard:=none}::rest) K E s=((∀d,dst=some d->d<N)∧fS P Γ (ef Γ E) s (fun r s'=>AY P Γ N ops rest K (eR E dst r) s') (.alloc t)):=lM rfl
theorem YU{dst:Option Tmp}(t:TypeId)(x:Operand){ty:TypeId}{pos:String}{after:Array Edge}{rest:List Oper}:AY P Γ N ops ({dst:=dst,op:=(.box t x),type:=ty,pos:=pos,after:=after,guard:=none}::rest) K E s=((∀d,dst=some d->d<N)∧fS P Γ (ef Γ E) s (fun r s'=>AY P Γ N ops rest K (eR E dst r) s') (.box t x)):=lM rfl
theorem Rq{dst:Option Tmp}(t:TypeId)(ps:Array (Nat×Operand)){ty:TypeId}{pos:String}{after:Array Edge}{rest:List Oper}:AY P Γ N ops ({dst:=dst,op:=(.build t ps),type:=ty,pos:=pos,after:=after,guard:=none}::rest) K E s=((∀d,dst=some d->d<N)∧fS P Γ (ef Γ E) s (fun r s'=>AY P Γ N ops rest K (eR E dst r) s') (.build t ps)):=lM rfl
theorem Fc{dst:Option Tmp}(t:TypeId)(n:Nat)(ps:Array (Nat×Operand)){ty:TypeId}{pos:String}{after:Array Edge}{rest:List Oper}:AY P Γ N ops ({dst:=dst,op:=(.buildSlice t n ps),type:=ty,pos:=pos,after:=after,guard:=none}::rest) K E s=((∀d,dst=some d->d<N)∧fS P Γ (ef Γ E) s (fun r s'=>AY P Γ N ops rest K (eR E dst r) s') (.buildSlice t n ps)):=lM rfl
theorem Vd{dst:Option Tmp}(t:TypeId)(x:Operand){ty:TypeId}{pos:String}{after:Array Edge}{rest:List Oper}:AY P Γ N ops ({dst:=dst,op:=(.load t x),type:=ty,pos:=pos,after:=after,guard:=none}::rest) K E s=((∀d,dst=some d->d<N)∧fS P Γ (ef Γ E) s (fun r s'=>AY P Γ N ops rest K (eR E dst r) s') (.load t x)):=lM rfl
theorem Rr{dst:Option Tmp}(t:TypeId)(x y:Operand){ty:TypeId}{pos:String}{after:Array Edge}{rest:List Oper}:AY P Γ N ops ({dst:=dst,op:=(.store t x y),type:=ty,pos:=pos,after:=after,guard:=none}::rest) K E s=((∀d,dst=some d->d<N)∧fS P Γ (ef Γ E) s (fun r s'=>AY P Γ N ops rest K (eR E dst r) s') (.store t x y)):=lM rfl
theorem JE{dst:Option Tmp}(x:Operand){ty:TypeId}{pos:String}{after:Array Edge}{rest:List Oper}:AY P Γ N ops ({dst:=dst,op:=(.nilCheck x),type:=ty,pos:=pos,after:=after,guard:=none}::rest) K E s=((∀d,dst=some d->d<N)∧fS P Γ (ef Γ E) s (fun r s'=>AY P Γ N ops rest K (eR E dst r) s') (.nilCheck x)):=lM rfl
theorem Rs{dst:Option Tmp}(o:BinOp)(t:TypeId)(x y:Operand)(u:TypeId){ty:TypeId}{pos:String}{after:Array Edge}{rest:List Oper}:AY P Γ N ops ({dst:=dst,op:=(.binOp o t x y u),type:=ty,pos:=pos,after:=after,guard:=none}::rest) K E s=((∀d,dst=some d->d<N)∧fS P Γ (ef Γ E) s (fun r s'=>AY P Γ N ops rest K (eR E dst r) s') (.binOp o t x y u)):=lM rfl
theorem Ve{dst:Option Tmp}(o:UnOp)(t:TypeId)(x:Operand){ty:TypeId}{pos:String}{after:Array Edge}{rest:List Oper}:AY P Γ N ops ({dst:=dst,op:=(.unOp o t x),type:=ty,pos:=pos,after:=after,guard:=none}::rest) K E s=((∀d,dst=some d->d<N)∧fS P Γ (ef Γ E) s (fun r s'=>AY P Γ N ops rest K (eR E dst r) s') (.unOp o t x)):=lM rfl
theorem Mn{dst:Option Tmp}(t u:TypeId)(x:Operand){ty:TypeId}{pos:String}{after:Array Edge}{rest:List Oper}:AY P Γ N ops ({dst:=dst,op:=(.convert t u x),type:=ty,pos:=pos,after:=after,guard:=none}::rest) K E s=((∀d,dst=some d->d<N)∧fS P Γ (ef Γ E) s (fun r s'=>AY P Γ N ops rest K (eR E dst r) s') (.convert t u x)):=lM rfl
theorem Ak{dst:Option Tmp}(t:TypeId)(x:Operand){ty:TypeId}{pos:String}{after:Array Edge}{rest:List Oper}:AY P Γ N ops ({dst:=dst,op:=(.makeInterface t x),type:=ty,pos:=pos,after:=after,guard:=none}::rest) K E s=((∀d,dst=some d->d<N)∧fS P Γ (ef Γ E) s (fun r s'=>AY P Γ N ops rest K (eR E dst r) s') (.makeInterface t x)):=lM rfl
theorem JF{dst:Option Tmp}(f:Fn)(a b:Array Operand){ty:TypeId}{pos:String}{after:Array Edge}{rest:List Oper}:AY P Γ N ops ({dst:=dst,op:=(.makeFunc f a b),type:=ty,pos:=pos,after:=after,guard:=none}::rest) K E s=((∀d,dst=some d->d<N)∧fS P Γ (ef Γ E) s (fun r s'=>AY P Γ N ops rest K (eR E dst r) s') (.makeFunc f a b)):=lM rfl
theorem Hp{dst:Option Tmp}(t:TypeId)(x y:Operand){ty:TypeId}{pos:String}{after:Array Edge}{rest:List Oper}:AY P Γ N ops ({dst:=dst,op:=(.makeSlice t x y),type:=ty,pos:=pos,after:=after,guard:=none}::rest) K E s=((∀d,dst=some d->d<N)∧fS P Γ (ef Γ E) s (fun r s'=>AY P Γ N ops rest K (eR E dst r) s') (.makeSlice t x y)):=lM rfl
theorem Rt{dst:Option Tmp}(t:TypeId)(x:Operand)(a b c:Option Operand){ty:TypeId}{pos:String}{after:Array Edge}{rest:List Oper}:AY P Γ N ops ({dst:=dst,op:=(.slice t x a b c),type:=ty,pos:=pos,after:=after,guard:=none}::rest) K E s=((∀d,dst=some d->d<N)∧fS P Γ (ef Γ E) s (fun r s'=>AY P Γ N ops rest K (eR E dst r) s') (.slice t x a b c)):=lM rfl
theorem Hq{dst:Option Tmp}(t:TypeId)(x:Operand)(i:Nat){ty:TypeId}{pos:String}{after:Array Edge}{rest:List Oper}:AY P Γ N ops ({dst:=dst,op:=(.fieldAddr t x i),type:=ty,pos:=pos,after:=after,guard:=none}::rest) K E s=((∀d,dst=some d->d<N)∧fS P Γ (ef Γ E) s (fun r s'=>AY P Γ N ops rest K (eR E dst r) s') (.fieldAddr t x i)):=lM rfl
theorem Ru{dst:Option Tmp}(t:TypeId)(x:Operand)(i:Nat){ty:TypeId}{pos:String}{after:Array Edge}{rest:List Oper}:AY P Γ N ops ({dst:=dst,op:=(.field t x i),type:=ty,pos:=pos,after:=after,guard:=none}::rest) K E s=((∀d,dst=some d->d<N)∧fS P Γ (ef Γ E) s (fun r s'=>AY P Γ N ops rest K (eR E dst r) s') (.field t x i)):=lM rfl
theorem Hr{dst:Option Tmp}(t:TypeId)(x y:Operand){ty:TypeId}{pos:String}{after:Array Edge}{rest:List Oper}:AY P Γ N ops ({dst:=dst,op:=(.indexAddr t x y),type:=ty,pos:=pos,after:=after,guard:=none}::rest) K E s=((∀d,dst=some d->d<N)∧fS P Γ (ef Γ E) s (fun r s'=>AY P Γ N ops rest K (eR E dst r) s') (.indexAddr t x y)):=lM rfl
theorem Rv{dst:Option Tmp}(t:TypeId)(x y:Operand){ty:TypeId}{pos:String}{after:Array Edge}{rest:List Oper}:AY P Γ N ops ({dst:=dst,op:=(.index t x y),type:=ty,pos:=pos,after:=after,guard:=none}::rest) K E s=((∀d,dst=some d->d<N)∧fS P Γ (ef Γ E) s (fun r s'=>AY P Γ N ops rest K (eR E dst r) s') (.index t x y)):=lM rfl
theorem Mo{dst:Option Tmp}(x:Operand)(i:Nat){ty:TypeId}{pos:String}{after:Array Edge}{rest:List Oper}:AY P Γ N ops ({dst:=dst,op:=(.extract x i),type:=ty,pos:=pos,after:=after,guard:=none}::rest) K E s=((∀d,dst=some d->d<N)∧fS P Γ (ef Γ E) s (fun r s'=>AY P Γ N ops rest K (eR E dst r) s') (.extract x i)):=lM rfl
theorem Mp{dst:Option Tmp}(b:Builtin)(a:Array Operand)(t:Array TypeId){ty:TypeId}{pos:String}{after:Array Edge}{rest:List Oper}:AY P Γ N ops ({dst:=dst,op:=(.call {callee:=.builtin b,args:=a,argTypes:=t}),type:=ty,pos:=pos,after:=after,guard:=none}::rest) K E s=((∀d,dst=some d->d<N)∧fS P Γ (ef Γ E) s (fun r s'=>AY P Γ N ops rest K (eR E dst r) s') (.call {callee:=.builtin b,args:=a,argTypes:=t})):=lM rfl
theorem Vf{dst:Option Tmp}{f:Operand}{args:Array Operand}{argTypes:Array TypeId}{ty:TypeId}{pos:String}{after:Array Edge}{rest:List Oper}:
    AY P Γ N ops ({dst:=dst,op:=.call {callee:=.value f,args:=args,argTypes:=argTypes},type:=ty,pos:=pos,after:=after,guard:=none}::rest) K E s=
      ((∀d,dst=some d->d<N)∧C7 P Γ N ops (ef Γ E f) (args.toList.map (ef Γ E)) dst rest K E s):=by
  simp only[ay,AX,fS,gG,ic,C7,Aj];rfl
theorem Rw{ρ:Operand->AV}{K:AV->AS->Prop}{op:Op}:fS P Γ ρ s K op=match gG P ρ op with |some r=>K r s|none=>ic P Γ ρ s K op:=rfl
section
variable{ρ:Operand->AV}{K:AV->AS->Prop}
theorem yz{T:TypeId}{x:Operand}:ic P Γ ρ s K (.load T x)=(match ρ x with
    |.ptr o off=>(match s.dD o with
      |some cs=>P.cellsOf T≠0∧(match tY P T (cs.drop off) with |some v=>K v s|none=>False)
      |none=>False)
    |_=>False):=rfl
theorem Fe{T:TypeId}{a x:Operand}:ic P Γ ρ s K (.store T a x)=(match ρ a with
    |.ptr o off=>(match s.dD o with
      |some cs=>P.cellsOf T≠0∧(ρ x).cells.length=P.cellsOf T∧off+(ρ x).cells.length<=cs.length∧(ρ x).cells.all AV.one=true∧K (.v undef) (s.set o (eQ cs off (ρ x).cells))
      |none=>False)
    |_=>False):=rfl
theorem Ff{T:TypeId}:ic P Γ ρ s K (.alloc T)=(match eO P T with |some z=>∀o,s.dD o=none->K (.ptr o 0) (s.set o z)|none=>False):=rfl
theorem JG{T:TypeId}{x:Operand}:ic P Γ ρ s K (.box T x)=∀o,s.dD o=none->K (.ptr o 0) (s.set o (ρ x).cells):=rfl
theorem yA{T:TypeId}{l c:Operand}:ic P Γ ρ s K (.makeSlice T l c)=(match P.underlying T,ρ l,ρ c with
    |some (.slice e),.v (.int _ n),.v (.int _ m)=>
      (match eO P e with
      |some z=>0<=n∧m=n∧P.bytesOf e*n<=2^46∧n<=2^46∧P.cellsOf e≠0∧z.length=P.cellsOf e∧
          ∀o,s.dD o=none->K (.jd o 0 (P.cellsOf e) n.toNat n.toNat) (s.set o (rF (n.toNat*P.cellsOf e) z))
      |none=>False)
    |_,_,_=>False):=rfl
theorem C9{x y:Operand}{T xT:TypeId}:ic P Γ ρ s K (.call {callee:=.builtin .append,args:=#[x,y],argTypes:=#[T,xT]})=(match P.underlying T with
      |some (.slice e)=>
        (match eO P e,nL (P.cellsOf e) s (ρ y) with
        |some z,some (m,ds)=>pY P (some xT)=true∧P.cellsOf e≠0∧z.length=P.cellsOf e∧lB P e (ρ x) m ds s K
        |_,_=>Jx P e xT (ρ x) (ρ y) s K)
      |_=>False):=rfl
theorem Hs{x y:Operand}{T xT:TypeId}:ic P Γ ρ s K (.call {callee:=.builtin .copy,args:=#[x,y],argTypes:=#[T,xT]})=(match P.underlying T with
      |some (.slice e)=>
        (match nL (P.cellsOf e) s (ρ y),ρ x with
        |some (m,ds),.jd o off _ n _=>
          (match s.dD o with
          |some cs=>P.cellsOf e≠0∧ds.all AV.one=true∧off+min m n*P.cellsOf e<=cs.length∧
              K (.v (.int .i64 ((min m n:Nat):Int))) (s.set o (eQ cs off (ds.take (min m n*P.cellsOf e))))
          |none=>False)
        |_,_=>False)
      |_=>False):=rfl
theorem vb{e:TypeId}{m:Nat}{ds:List AV}:lB P e (.v (.slice none 0 0)) m ds s K=if m=0 then K (.v (.slice none 0 0)) s
    else m*P.bytesOf e<=2^46∧m<=2^46∧∀t,s.own t=none->K (.sl (P.cellsOf e) m ds (.own t 0)) (s.eT t 0):=rfl
theorem Ht{e:TypeId}{sz n m:Nat}{cs ds:List AV}:lB P e (.sl sz n cs .full) m ds s K=if m=0 then K (.sl sz n cs .full) s
    else sz=P.cellsOf e∧(n+m)*P.bytesOf e<=2^46∧n+m<=2^46∧ds.all AV.one=true∧∀t,s.own t=none->K (.sl sz (n+m) (cs++ds) (.own t 0)) (s.eT t 0):=rfl
theorem JH{e:TypeId}{sz n m:Nat}{cs ds:List AV}:lB P e (.sl sz n cs .new) m ds s K=if m=0 then K (.sl sz n cs .new) s
    else sz=P.cellsOf e∧(n+m)*P.bytesOf e<=2^46∧n+m<=2^46∧ds.all AV.one=true∧∀t,s.own t=none->K (.sl sz (n+m) (cs++ds) (.own t 0)) (s.eT t 0):=rfl
theorem vd{e:TypeId}{sz n m t g:Nat}{cs ds:List AV}:lB P e (.sl sz n cs (.own t g)) m ds s K=if m=0 then K (.sl sz n cs (.own t g)) s
    else sz=P.cellsOf e∧(n+m)*P.bytesOf e<=2^46∧n+m<=2^46∧ds.all AV.one=true∧s.own t=some g∧K (.sl sz (n+m) (cs++ds) (.own t (g+1))) (s.eT t (g+1)):=rfl
end
theorem Rx{dst:Option Tmp}{op:Op}{ty:TypeId}{pos:String}{after:Array Edge}{j:Nat}{want:Bool}{rest:List Oper}:
    AY P Γ N ops ({dst:=dst,op:=op,type:=ty,pos:=pos,after:=after,guard:=some (j,want)}::rest) K E s=
      (match tm ops j with
      |none=>(∀d,dst=some d->d<N)∧False
      |some d=>match E d with
        |.v (.bool t)=>if t=want then AY P Γ N ops ({dst:=dst,op:=op,type:=ty,pos:=pos,after:=after,guard:=none}::rest) K E s else((∀d,dst=some d->d<N)∧AY P Γ N ops rest K (eR E dst (.v undef)) s)
        |.v (.tuple _)=>(∀d,dst=some d->d<N)∧AY P Γ N ops rest K (eR E dst (.v undef)) s
        |_=>(∀d,dst=some d->d<N)∧False):=by
  cases hj:tm ops j with
  |none=>simp only[ay,AX,hj]
  |some d=>
    simp only;split
    · rename_i t hE;exact C8 (o:={dst:=dst,op:=op,type:=ty,pos:=pos,after:=after,guard:=some (j,want)}) rfl hj hE
    · rename_i c hE;simp only[ay,AX,hj,hE]
    · rename_i gP;simp only[ay,AX,hj]
theorem Mq:kg []=.ka []:=rfl
theorem Mr(a:AV):kg [a]=a:=rfl
theorem Ms(a b:AV):kg [a,b]=.ka [a,b]:=rfl
theorem Hu(a b c:AV):kg [a,b,c]=.ka [a,b,c]:=rfl
theorem JI(a b c d:AV):kg [a,b,c,d]=.ka [a,b,c,d]:=rfl
theorem JJ(a b c d e:AV):kg [a,b,c,d,e]=.ka [a,b,c,d,e]:=rfl
def Vg(P:Program)(Γ:Nat->List AV)(N:Nat)(ops:Array Oper)(fl:List Nat)(k:Nat)(L:List Oper)(K:Env->AS->Prop)(E:Env)(s:AS):Prop:=u7 P Γ N ops (yy fl k L) K E s
theorem Ry:∃f:Program->(Nat->List AV)->Nat->Array Oper->List Nat->Nat->List Oper->(Env->AS->Prop)->Env->AS->Prop,f=Vg:=⟨_,rfl⟩
noncomputable def YV:Program->(Nat->List AV)->Nat->Array Oper->List Nat->Nat->List Oper->(Env->AS->Prop)->Env->AS->Prop:=cz Ry
theorem axq:YV=Vg:=ct Ry
theorem fM{fl:List Nat}{k:Nat}:YV P Γ N ops fl k [] K E s=K E s:=by rw[axq];rfl
theorem fi{fl:List Nat}{k:Nat}{o:Oper}{rest:List Oper}:YV P Γ N ops fl k (o::rest) K E s=
    if fl.contains k=true then AY P Γ N ops [o] (YV P Γ N ops fl (k+1) rest K) E s
    else((∀d,o.dst=some d->d<N)∧match eZ P Γ ops o E with |some v=>YV P Γ N ops fl (k+1) rest K (eR E o.dst v) s|none=>False):=by rw[axq,ay];rfl
section
variable{Q:Exit->Env->AS->Prop}
theorem awp_reg_seq{id:Nat}{L:List Oper}{y:Code}(h:∀K:Env->AS->Prop,(∀E s,fY P Γ N y Q E s->K E s)->AY P Γ N L.toArray L K E s):fY P Γ N (.seq (.region id L.toArray false) y) Q E s:=
  C4 fun K hK=>by simpa[ay] using h K hK
theorem awp_reg_end{id:Nat}{L:List Oper}(h:∀K:Env->AS->Prop,(∀E s,Q .normal E s->K E s)->AY P Γ N L.toArray L K E s):fY P Γ N (.region id L.toArray false) Q E s:=
  C5 fun K hK=>by simpa[ay] using h K hK
theorem eB(hm:P.follows .mixedOrders=true)(fl:List Nat){id:Nat}{L:List Oper}{y:Code}(mR:xq L.toArray fl=true)(h:∀K:Env->AS->Prop,(∀E s,fY P Γ N y Q E s->K E s)->YV P Γ N L.toArray fl 0 L K E s):
    fY P Γ N (.seq (.region id L.toArray true) y) Q E s:=
  Hl hm fl mR fun K hK=>by simpa[axq,Vg] using h K hK
theorem iw(hm:P.follows .mixedOrders=true)(fl:List Nat){id:Nat}{L:List Oper}(mR:xq L.toArray fl=true)(h:∀K:Env->AS->Prop,(∀E s,Q .normal E s->K E s)->YV P Γ N L.toArray fl 0 L K E s):
    fY P Γ N (.region id L.toArray true) Q E s:=
  Hm hm fl mR fun K hK=>by simpa[axq,Vg] using h K hK
end
end Go.AM
namespace Go.AM
open Go Go.RowKit
def jX(k n:Nat)(st:List UInt8×Bool):List UInt8×Bool:=if st.2=true then st else(st.1++be k n,false)
def eP(k:Nat)(n:Int)(st:List UInt8×Bool):List UInt8×Bool:=if 0<=n∧n<2^(8*k) then jX k n.toNat st else(st.1,true)
def jY(m:List UInt8)(st:List UInt8×Bool):List UInt8×Bool:=if st.2=true then st else(st.1++m,false)
def iM(k:Nat)(m:List UInt8)(st:List UInt8×Bool):List UInt8×Bool:=jY m (eP k m.length st)
abbrev mK(s0 s:AS)(p:Nat)(st:List UInt8×Bool):Prop:=Cv s0 s p st.1 st.2
def Fg(x:AV)(l:List UInt8):Prop:=(x=eW∧l=[])∨∃sp,x=dm l sp
theorem Fg.nil:Fg eW []:=.inl ⟨rfl,rfl⟩
theorem Fg.mk(l:List UInt8)(sp:Sp):Fg (dm l sp) l:=.inr ⟨sp,rfl⟩
theorem dS.any{P:Program}{Γ:Nat->List AV}{f:FuncId}{pre post:List AV}{l:List UInt8}{s:AS}{Q:AV->AS->Prop}(h0:l=[]->dS P Γ f (pre++eW::post) s Q)(h1:dS P Γ f (pre++dm l .no::post) s Q):
    dS P Γ f (pre++dm l .any::post) s Q:=by
  intro G w vs hs hv;have key:∀(pre:List AV)(vs:List Value),dP G (pre++dm l .any::post) vs->(l=[]∧dP G (pre++eW::post) vs)∨dP G (pre++dm l .no::post) vs:=by
    intro pre;induction pre with
    |nil=>
      intro vs h;simp only[aP,dP] at h⊢;obtain⟨u,us,rfl,h1,h2⟩:=h;rcases dQ.any h1 with⟨h3,_,h4⟩|h3
      · exact .inl ⟨al h3,u,us,rfl,h4,h2⟩
      · exact .inr ⟨u,us,rfl,h3,h2⟩
    |cons x pre ih=>
      intro vs h;simp only[List.cons_append,dP] at h⊢;obtain⟨u,us,rfl,h1,h2⟩:=h;rcases ih us h2 with⟨h3,h4⟩|h3
      · exact .inl ⟨h3,u,us,rfl,h1,h4⟩
      · exact .inr ⟨u,us,rfl,h1,h3⟩
  rcases key pre vs hv with⟨h3,h4⟩|h3
  · exact h0 h3 G w vs hs h4
  · exact h1 G w vs hs h3
theorem Mt(k n:Nat)(st:List UInt8×Bool):(jX k n st).1.length<=st.1.length+k:=by
  unfold jX;split <;>simp
theorem kG(k:Nat)(n:Int)(st:List UInt8×Bool):(eP k n st).1.length<=st.1.length+k:=by
  unfold eP;split
  · exact Mt ..
  · simp
theorem Da(m:List UInt8)(st:List UInt8×Bool):(jY m st).1.length<=st.1.length+m.length:=by
  unfold jY;split <;>simp
theorem Cv.Vh{s0 s:AS}{p:Nat}{bad:Bool}(h:Cv s0 s p [] bad){t:Nat}(ht:s.own t=none)(m:List UInt8):Cv s0 ((s.eT t 0).set p [.sl 1 m.length (m.map cU) (.own t 0),.v (.bool false)]) p m false:=
  h.Ho (m:=m) false (h.JD ht)
theorem Cv.bad{s0 s:AS}{p:Nat}{l:List UInt8}{bad:Bool}(h:Cv s0 s p l bad){x:AV}(hx:s.dD p=some [x,.v (.bool bad)])(hb:Buf s0 s x l)(b:Bool):Cv s0 (s.set p [x,.v (.bool b)]) p l b:=
  ⟨AS.dW h.le h.new _,h.new,x,AS.bG _ _ _,hb⟩
theorem Gg(n:Int)(k:Nat)(hk:8*k<=64)(h0:0<=n):(kE .i64 n (8*(k:Int)) != 0)=decide (2^(8*k)<=n):=by
  obtain⟨m,rfl⟩:=Int.eq_ofNat_of_zero_le h0;rw[show(8*(k:Int))=((8*k:Nat):Int) from oM,nq];have :min (8*k) IntKind.i64.bits=8*k:=(by simp[aJ];omega);rw[this];have e:((2:Int)^(8*k))=((2^(8*k):Nat):Int):=(by push_cast;rfl);rw[e];have Al:0<2^(8*k):=Nat.pow_pos dM;by_cases h:m<2^(8*k)
  · rw[Nat.div_eq_of_lt h];simp;omega
  · have :m/2^(8*k)≠0:=by
      rw[Ne,Nat.div_eq_zero_iff];omega
    have h1:((((m/2^(8*k):Nat):Int) != 0)=true):=by
      rw[bne_iff_ne];omega
    rw[h1];symm;rw[decide_eq_true_eq];omega
theorem iS(n:Nat)(h:n<2^64):gq .u64 (n:Int)=n:=by
  rw[nh rfl];simp[aJ,aW h]
end Go.AM
namespace Go.AM
open Go Go.RowKit
theorem Vi{a:Int}(h:(Lit.int .u64 a).wf=true):∃n:Nat,a=n∧n<2^64:=by
  have:=bounds_u64 h;exact⟨a.toNat,oM,oM⟩
theorem YW{a:Int}(h:(Lit.int .u8 a).wf=true):∃n:Nat,a=n∧n<2^8:=by
  have:=bounds_u8 h;exact⟨a.toNat,oM,oM⟩
end Go.AM
