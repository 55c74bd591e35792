/- An abstract machine for the model: abstract values, their relation to worlds, and the rules of its walk, each proved sound over the model; no condition. -/
import Derived.Test.YtfbbckndpkmfcaaAMp6
import Derived.Shelf.Spec.SlicesInsertGrow
import Derived.Test.YtfbbckndpkmfcaaAMp2
set_option linter.unusedSimpArgs false
set_option linter.unusedVariables false
set_option autoImplicit false
namespace Go.AM
open Go Go.RowKit
variable {P : Program} {Γ : Nat→List AV} {G : Gh} {s : AS} {w : World} {N : Nat}
theorem cut_appendCap_lt (need old : Nat) (e : TypeId) (x : Nat) (h : need < 2 ^ 63) : (Question.appendCap need old e).cut x < 2 ^ 63:=by
  have hlt:=Nat.mod_lt x (show 0 < 2 ^ 63 - need by omega)
  simp only [Question.cut]
  omega
theorem run_append_new63 {m : Nat} {u : Value} (hsrc : ∀ w',(Builtin.lenOf u).run P w' = .ok m w') {T xT e : TypeId} (hT : P.underlying T = some (.slice e)) (hx : srcOk P (some xT) = true)
    {z : List AV} (he : ElemOk P e z)
    {base : Option Addr} {n cap : Nat} {olds news : List Value} (hold : ∀ w',(∀ b j,w'.cell? ⟨b,j,none⟩ = w.cell? ⟨b,j,none⟩)→(Builtin.firstCells (P.cellsOf e) n (.slice base n cap)).run P w' = .ok olds.toArray w')
    (hnew : ∀ w',(∀ b j,w'.cell? ⟨b,j,none⟩ = w.cell? ⟨b,j,none⟩)→(Builtin.firstCells (P.cellsOf e) m u).run P w' = .ok news.toArray w')
    (hg : cap < n + m) (hfit : (n + m) * P.bytesOf e≤2 ^ 46) (h63 : n + m≤2 ^ 46) (ty : TypeId) :
    ∃ (cap' : Nat) (rest : List Value),n + m≤cap'∧cap' < 2 ^ 63∧rest.length = (cap' - (n + m)) * P.cellsOf e ∧
      (Builtin.append_ #[T,xT] ty #[.slice base n cap,u]).run P w = .ok (.slice (some ⟨w.heap.size,0,none⟩) (n + m) cap') (w.drew.alloc (.cells ((olds ++ news) ++ rest).toArray e)):=by
  obtain ⟨hz,hsz,hzl⟩:=he
  obtain ⟨zv,hz1,hz2⟩:=zcells_some hz
  obtain ⟨i,hi⟩:=info_of_cells hsz
  have hb : P.bytesOf e = i.bytes:=by simp [Program.bytesOf,hi]
  have hti : ∀ w',(typeInfo e).run P w' = .ok i w':=fun w'=>by simp [typeInfo,hi]
  have hnle : ¬ (n + m≤cap):=by omega
  have hnot63 : ¬ (9223372036854775807 < (n : Int) + (m : Int)):=by omega
  have hslice:=nextslicecap_le (need:=n + m) (old:=cap) hg
  have hnot48 : ¬ (2 ^ 48 < Builtin.nextslicecap (n + m) cap * i.bytes):=by
    rw [hb] at hfit
    have h2 : Builtin.nextslicecap (n + m) cap * i.bytes≤2 * (n + m) * i.bytes:=Nat.mul_le_mul_right _ hslice
    rw [Nat.mul_assoc] at h2
    omega
  have hzl : zv.cells.size = P.cellsOf e:=by
    rw [hz2] at hzl
    simpa using hzl
  have ho1:=hold w.drew (fun b j=>rfl)
  have hn1:=hnew w.drew (fun b j=>rfl)
  refine ⟨_,(Builtin.zeroCells zv.cells ((Question.appendCap (n + m) cap e).cut (w.tape w.drawn (.appendCap (n + m) cap e)) - (n + m))).toList,cut_appendCap (n + m) cap e (w.tape w.drawn (.appendCap (n + m) cap e)),cut_appendCap_lt (n + m) cap e (w.tape w.drawn (.appendCap (n + m) cap e)) (by omega),?_,?_⟩
  · simp [Builtin.zeroCells,hzl]
  · have hf : (Question.appendCap (n + m) cap e).forced = false:=rfl
    rcases srcOk_some hx with ⟨e',hx⟩ | hx
    all_goals
      simp [Builtin.append_,run_underlying hT,run_sizeOf' hsz,run_underlying hx,hsrc,hnle,hti,hnot63,hnot48,hf,ho1,hn1,hz1,newRow]
      congr 2
      apply Array.ext'
      simp [List.append_assoc]
def OBuf (sz : Nat) (s : AS) (x : AV) (n : Nat) (cs : List AV) : Prop :=
  (n = 0∧cs = []∧(x = nilS∨x = .sl sz 0 [] .full∨x = .sl sz 0 [] .new)) ∨
    ∃ o cap rest,x = .osl o 0 sz n cap∧s.objs o = some (cs ++ rest)∧cs.length = n * sz∧rest.length = (cap - n) * sz∧n≤cap∧cap < 2 ^ 63
theorem asetAll_mid : ∀ (ds cs rest : List AV),ds.length≤rest.length→asetAll (cs ++ rest) cs.length ds = cs ++ ds ++ rest.drop ds.length
  | [],cs,rest,_=>by simp [asetAll]
  | d :: ds,cs,rest,h=>by
    cases rest with
    | nil=>simp at h
    | cons r rest =>
      simp only [asetAll]
      have e : (cs ++ r :: rest).set cs.length d = (cs ++ [d]) ++ rest:=by simp
      have:=asetAll_mid ds (cs ++ [d]) rest (by simpa using h)
      rw [List.length_append,List.length_singleton] at this
      rw [e,this]
      simp
theorem append_own_sound {x y : AV} {u v : Value} {m n : Nat} {cs ds : List AV} {T xT e : TypeId} {z : List AV} (hT : P.underlying T = some (.slice e)) (hx : srcOk P (some xT) = true) (he : ElemOk P e z)
    (hsrc : asrc (P.cellsOf e) s y = some (m,ds)) (hm : m≠0) (h1 : (n + m) * P.bytesOf e≤2 ^ 46) (h2 : n + m≤2 ^ 46) (hone : ds.all AV.one = true) (hb : OBuf (P.cellsOf e) s x n cs)
    (hxr : VRel G x u) (hyr : VRel G y v) (hs : SRel Γ G s w) (ty : TypeId) :
    ∃ G' r w' o cap rest,(Builtin.append_ #[T,xT] ty #[u,v]).run P w = .ok r w'∧G.le G'∧n + m≤cap∧cap < 2 ^ 63∧rest.length = (cap - (n + m)) * P.cellsOf e∧(s.objs o = none∨∃ cap0,x = .osl o 0 (P.cellsOf e) n cap0) ∧
      SRel Γ G' (s.set o (cs ++ ds ++ rest)) w'∧VRel G' (.osl o 0 (P.cellsOf e) (n + m) cap) r:=by
  obtain ⟨us,hv,hlen,hlenOf,hfirst⟩:=asrc_sound (P:=P) hsrc hyr hs
  have hdl:=hv.length
  have grow : ∀ (base : Option Addr) (cap : Nat) (vs : List Value),VRels G cs vs→cap < n + m →
      (∀ w',(∀ b j,w'.cell? ⟨b,j,none⟩ = w.cell? ⟨b,j,none⟩)→(Builtin.firstCells (P.cellsOf e) n (.slice base n cap)).run P w' = .ok vs.toArray w') →
      ∃ G' r w' o cap' rest,(Builtin.append_ #[T,xT] ty #[.slice base n cap,v]).run P w = .ok r w'∧G.le G'∧n + m≤cap'∧cap' < 2 ^ 63∧rest.length = (cap' - (n + m)) * P.cellsOf e∧(s.objs o = none∨∃ cap0,x = .osl o 0 (P.cellsOf e) n cap0) ∧
        SRel Γ G' (s.set o (cs ++ ds ++ rest)) w'∧VRel G' (.osl o 0 (P.cellsOf e) (n + m) cap') r:=by
    intro base cap vs hvs hlt hold
    obtain ⟨cap',rest,hc1,hc3,hc2,hrun⟩:=run_append_new63 (P:=P) (w:=w) hlenOf hT hx he (base:=base) (n:=n) (cap:=cap) (olds:=vs) (news:=us) hold hfirst hlt h1 h2 ty
    obtain ⟨o,k1,k2,k3,k4⟩:=hs.drew.newObj (cs:=(cs ++ ds) ++ rest.map .v) (vs:=(vs ++ us) ++ rest) ((hvs.append hv).append (VRels.vals rest)) e
    refine ⟨_,_,_,o,cap',rest.map .v,hrun,k2,hc1,hc3,by simpa using hc2,.inl k1,k3,?_⟩
    simp only [VRel]
    exact ⟨_,k4,rfl,hc1⟩
  rcases hb with ⟨rfl,rfl,rfl | rfl | rfl⟩ | ⟨o,cap,rest,rfl,ho,hcl,hrl,_,h63⟩
  · simp only [nilS,VRel] at hxr
    subst hxr
    exact grow none 0 [] (by simp [VRels]) (by omega) (fun w' _=>run_firstCells_none w' _ _ _ _)
  · simp only [VRel] at hxr
    rcases hxr with ⟨b,off,cap,vs,rfl,hl,_,hv0,hro,hsp⟩ | ⟨_,_,a,cap,rfl,hmere⟩ | ⟨_,_,h,_⟩
    · simp only [SpRel] at hsp
      subst hsp
      exact grow _ 0 [] (by simp [VRels]) (by omega) (fun w' _=>run_firstCells_some w' _ _ _ _ _ [] (by simp) (by simp))
    · rcases hmere with h | h | ⟨_,rfl⟩
      · cases h
      · cases h
      · exact grow _ 0 [] (by simp [VRels]) (by omega) (fun w' _=>run_firstCells_some w' _ _ _ _ _ [] (by simp) (by simp))
    · cases h
  · simp only [VRel] at hxr
    rcases hxr with ⟨b,off,cap,vs,rfl,hl,_,hv0,hro,hsp⟩ | ⟨_,_,a,cap,rfl,hmere⟩ | ⟨_,_,h,_⟩
    · simp only [SpRel] at hsp
      obtain ⟨rfl,_⟩:=hsp
      exact grow _ 0 [] (by simp [VRels]) (by omega) (fun w' _=>run_firstCells_some w' _ _ _ _ _ [] (by simp) (by simp))
    · rcases hmere with h | h | ⟨h,_⟩ <;> cases h
    · cases h
  · have hxr':=hxr
    simp only [VRel] at hxr
    obtain ⟨b,hb1,rfl,hnc⟩:=hxr
    obtain ⟨b',vs,q1,q2,q3,q4⟩:=hs.objs o _ ho
    rw [hb1] at q1
    cases q1
    have hvl:=q2.length
    have hvs:=q2.take cs.length
    rw [List.take_left] at hvs
    have hl2:=hvs.length
    rcases Nat.lt_or_ge cap (n + m) with hlt | hge
    · refine grow _ cap (vs.take cs.length) hvs hlt (fun w' hw'=>?_)
      refine run_firstCells_some w' _ _ _ _ _ _ (by omega) (fun j x hj=>?_)
      rw [add_spot,hw']
      rw [List.getElem?_take] at hj
      split at hj
      · rw [Nat.zero_add]; exact (q4 j x hj).1
      · cases hj
    · have hsum : m * P.cellsOf e≤(cap - n) * P.cellsOf e:=Nat.mul_le_mul_right _ (by omega)
      have hfits : cs.length + ds.length≤(cs ++ rest).length:=by rw [List.length_append,hrl,hdl,hlen]; omega
      obtain ⟨f1,f2,f3⟩:=setCells_obj hs ho hb1 (off:=cs.length) hfits hv
      rw [asetAll_mid ds cs rest (by rw [hdl,hlen,hrl]; exact hsum)] at f3
      rw [hcl] at f1 f2 f3
      have hrun:=run_append_in (P:=P) (w:=w) (n:=n) (m:=m) (cap:=cap) (off:=0) (b:=b) hlenOf hT hx he.2.1 (hfirst w (fun _ _=>rfl)) (by rw [Nat.zero_add]; exact f1) (by rw [Nat.zero_add]; exact f2) (one_of_all hv hone) hge ty
      rw [Nat.zero_add] at hrun
      refine ⟨G,_,_,o,cap,_,hrun,.refl G,hge,h63,?_,.inr ⟨cap,rfl⟩,f3,?_⟩
      · rw [List.length_drop,hrl,hdl,hlen,← Nat.sub_mul,Nat.sub_sub]
      · simp only [VRel]
        exact ⟨b,hb1,rfl,hge⟩
theorem append_own_res {ρ : Operand→AV} {ρ' : Operand→Value} {o : Oper} {x y : Operand} {m n : Nat} {cs ds : List AV} {T xT e : TypeId} {z : List AV} (ho : o.op = .call { callee:=.builtin .append,args:=#[x,y],argTypes:=#[T,xT] })
    (hT : P.underlying T = some (.slice e)) (hx : srcOk P (some xT) = true) (hz : zcells P e = some z) (hc : P.cellsOf e≠0) (hzl : z.length = P.cellsOf e)
    (hsrc : asrc (P.cellsOf e) s (ρ y) = some (m,ds)) (hm : m≠0) (h1 : (n + m) * P.bytesOf e≤2 ^ 46) (h2 : n + m≤2 ^ 46) (hone : ds.all AV.one = true) (hb : OBuf (P.cellsOf e) s (ρ x) n cs)
    (hρ : ∀ x,VRel G (ρ x) (ρ' x)) (hs : SRel Γ G s w) :
    OpRes P Γ G (fun r s'=>∃ ob cap rest,r = .osl ob 0 (P.cellsOf e) (n + m) cap∧n + m≤cap∧cap < 2 ^ 63∧rest.length = (cap - (n + m)) * P.cellsOf e∧(s.objs ob = none∨∃ cap0,ρ x = .osl ob 0 (P.cellsOf e) n cap0)∧s' = s.set ob (cs ++ ds ++ rest)) ((execOp ρ' o).run P w):=by
  obtain ⟨G',r,w',ob,cap,rest,q1,q2,q3,q3',q4,q5,q6,q7⟩:=append_own_sound hT hx ⟨hz,hc,hzl⟩ hsrc hm h1 h2 hone hb (hρ x) (hρ y) hs o.type
  rw [run_execOp_builtin ho]
  simp only [builtin]
  exact opres_value ⟨G',r,w',_,_,by simpa using q1,q2,q6,q7,ob,cap,rest,rfl,q3,q3',q4,q5,rfl⟩
end Go.AM
namespace Go.AM
open Go Go.RowKit
variable {rd : Option Nat} {P : Program} {Γ : Nat→List AV} {G : Gh} {s : AS} {w : World} {N : Nat}
theorem Views.append {a b c d : List AV} (h : Views Γ s a c) (k : Views Γ s b d) : Views Γ s (a ++ b) (c ++ d):=by
  intro G w us hs hv
  have hl:=hv.length
  have h1:=hv.take a.length
  have h2:=hv.drop a.length
  rw [List.take_left] at h1
  rw [List.drop_left] at h2
  have:=VRels.append (h G w _ hs h1) (k G w _ hs h2)
  rwa [List.take_append_drop] at this
theorem View.nilS : View Γ s nilS (.sl 1 0 [] .any):=fun G w u _ hv=>AV.weak_nil _ _ (by simpa [Go.AM.nilS,VRel] using hv)
theorem View.empty {sz : Nat} {sp : Sp} (h : sp = .full∨sp = .new) : View Γ s (.sl sz 0 [] sp) (.sl sz 0 [] .any):=by
  intro G w u hs hv
  simp only [VRel] at hv ⊢
  rcases hv with ⟨b,off,cap,vs,h1,h2,h3,h4,h5,h6⟩ | ⟨_,_,a,cap,h1,_⟩ | ⟨_,_,h1,_⟩
  · simp only [VRels] at h4
    subst h4
    exact .inl ⟨b,off,cap,[],h1,h2,h3,by simp [VRels],(fun j u hj=>by cases hj),trivial⟩
  · exact .inr (.inl ⟨trivial,trivial,a,cap,h1,by simp⟩)
  · rcases h with rfl | rfl <;> cases h1
def Settles (Γ : Nat→List AV) (s : AS) (x : AV) (s' : AS) (x' : AV) : Prop:=∀ G w u,SRel Γ G s w→VRel G x u→∃ G',G.le G'∧SRel Γ G' s' w∧VRel G' x' u
theorem Settles.refl (x : AV) : Settles Γ s x s x:=fun G _ _ hs hv=>⟨G,.refl G,hs,hv⟩
theorem Settles.trans {s1 s2 s3 : AS} {x y z : AV} (h : Settles Γ s1 x s2 y) (k : Settles Γ s2 y s3 z) : Settles Γ s1 x s3 z:=by
  intro G w u hs hv
  obtain ⟨G1,h1,h2,h3⟩:=h G w u hs hv
  obtain ⟨G2,k1,k2,k3⟩:=k G1 w u h2 h3
  exact ⟨G2,h1.trans k1,k2,k3⟩
theorem Settles.weak {x y : AV} (h : x.weak y) : Settles Γ s x s y:=fun G _ _ hs hv=>⟨G,.refl G,hs,h _ _ hv⟩
theorem Settles.le {s' : AS} (x : AV) (h : s'.le s) : Settles Γ s x s' x:=fun G _ _ hs hv=>⟨G,.refl G,hs.mono h,hv⟩
theorem SRel.reObj {o : Nat} {cs cs' : List AV} (h : SRel Γ G s w) (ho : s.objs o = some cs) (hw : ∀ vs,VRels G cs vs→VRels G cs' vs) : SRel Γ G (s.set o cs') w:=by
  refine ⟨h.ro,?_,h.objLt,h.inj,h.own,h.ownInj,h.ownLast,h.freshO,h.freshT,h.below,h.others,h.base,h.glob,h.soft,h.maps⟩
  intro o' ds hd
  by_cases e : o' = o
  · subst e
    rw [AS.set_objs_same] at hd
    cases hd
    obtain ⟨b,vs,h1,h2,h3,h4⟩:=h.objs o' cs ho
    exact ⟨b,vs,h1,hw vs h2,h3,h4⟩
  · rw [AS.set_objs_ne _ e] at hd
    exact h.objs o' ds hd
theorem Settles.cells {O : Nat} {A B : List AV} {a b : AV} (x : AV) (hO : s.objs O = some (A ++ a :: B)) (hw : a.weak b) : Settles Γ s x (s.set O (A ++ b :: B)) x:=by
  intro G w u hs hv
  refine ⟨G,.refl G,hs.reObj hO (fun vs h=>?_),hv⟩
  have hl:=h.length
  have h1:=h.take A.length
  have h2:=h.drop A.length
  rw [List.take_left] at h1
  rw [List.drop_left] at h2
  generalize hd : vs.drop A.length = ds at h2
  simp only [VRels] at h2
  obtain ⟨u1,us,rfl,h3,h4⟩:=h2
  rw [← List.take_append_drop A.length vs,hd]
  exact h1.append (by simp only [VRels]; exact ⟨u1,us,rfl,hw _ _ h3,h4⟩)
theorem Settles.inner {O o sz n cap : Nat} {A B cs rest : List AV} (x : AV) (hO : s.objs O = some (A ++ .osl o 0 sz n cap :: B)) (ho : s.objs o = some (cs ++ rest)) (hne : O≠o) (hl : cs.length = n * sz) :
    Settles Γ s x ((s.drop o).set O (A ++ .sl sz n cs .any :: B)) x:=by
  intro G w u hs hv
  obtain ⟨b,vs,h1,h2,h3,h4,h5⟩:=hs.freeze ho
  refine ⟨_,h3,h5.reObj (cs:=A ++ .osl o 0 sz n cap :: B) (by rw [AS.drop_objs,upd_ne _ _ hne]; exact hO) (fun us h=>?_),VRel.mono h3 _ _ hv⟩
  have k1:=h.take A.length
  have k2:=h.drop A.length
  rw [List.take_left] at k1
  rw [List.drop_left] at k2
  generalize hd : us.drop A.length = ds at k2
  simp only [VRels] at k2
  obtain ⟨u1,us1,rfl,k3,k4⟩:=k2
  rw [← List.take_append_drop A.length us,hd]
  refine k1.append ?_
  simp only [VRels]
  refine ⟨u1,us1,rfl,?_,k4⟩
  simp only [VRel] at k3 ⊢
  obtain ⟨b',q1,q2,q3⟩:=k3
  rw [h3.obj _ _ h1] at q1
  cases q1
  have q5:=h2.take cs.length
  rw [List.take_left] at q5
  refine .inl ⟨b,0,cap,_,q2,hl,q3,VRels.mono h3 _ _ q5,?_,trivial⟩
  intro j y hj
  rw [List.getElem?_take] at hj
  split at hj
  · exact h4 j y hj
  · cases hj
theorem Settles.outer {o sz n cap : Nat} {cs rest : List AV} (ho : s.objs o = some (cs ++ rest)) (hl : cs.length = n * sz) : Settles Γ s (.osl o 0 sz n cap) (s.drop o) (.sl sz n cs .any):=by
  intro G w u hs hv
  obtain ⟨b,vs,h1,h2,h3,h4,h5⟩:=hs.freeze ho
  refine ⟨_,h3,h5,?_⟩
  simp only [VRel] at hv ⊢
  obtain ⟨b',q1,q2,q3⟩:=hv
  rw [h1] at q1
  cases q1
  have q5:=h2.take cs.length
  rw [List.take_left] at q5
  refine .inl ⟨b,0,cap,_,q2,hl,q3,VRels.mono h3 _ _ q5,?_,trivial⟩
  intro j y hj
  rw [List.getElem?_take] at hj
  split at hj
  · exact h4 j y hj
  · cases hj
theorem ACalls.settle {f : FuncId} {args : List AV} {Q R : AV→AS→Prop} (h : ACalls P Γ f args s Q) (k : ∀ r s1,Q r s1→∃ s2 r2,Settles Γ s1 r s2 r2∧R r2 s2) : ACalls P Γ f args s R:=by
  intro G w vs hs ha
  refine (h G w vs hs ha).mono ?_
  rintro e w' ⟨G',r,v,s',rfl,h1,h2,h3,h4⟩
  obtain ⟨s2,r2,k1,k2⟩:=k r s' h4
  obtain ⟨G2,q1,q2,q3⟩:=k1 G' w' v h2 h3
  exact ⟨G2,r2,v,s2,rfl,h1.trans q1,q2,q3,k2⟩
theorem Ghost.settle {E : Env} {d : Nat} {x x' : AV} {s' : AS} (hE : E d = x) (h : Settles Γ s x s' x') : Ghost Γ N E s (upd E d x') s':=by
  intro G a w hr
  have hd:=hr.tmps d
  rw [hE] at hd
  obtain ⟨G',h1,h2,h3⟩:=h G w _ hr.st hd
  refine ⟨G',h1,h2,hr.size,fun i=>?_,hr.defers.trans h1.df.symm⟩
  simp only [upd]
  split
  · rename_i e
    subst e
    exact h3
  · exact VRel.mono h1 _ _ (hr.tmps i)
theorem awp_region_mid {E : Env} {Q : Exit→Env→AS→Prop} {id : Nat} (L1 L2 : List Oper) {o : Oper} (hg : o.guard = none) (hd : ∀ d,o.dst = some d→d < N)
    (h : AY P Γ N (L1 ++ o :: L2).toArray L1 (fun E1 s1=>∃ K1 : AV→AS→Prop,(∀ G a w,Rel Γ N G E1 s1 a w→OpRes P Γ G K1 ((execOp a.eval o).run P w)) ∧
      ∀ r s2,K1 r s2→AY P Γ N (L1 ++ o :: L2).toArray L2 (fun E' s'=>Q .normal E' s') (updO E1 o.dst r) s2) E s) :
    AWp P Γ N (.region id (L1 ++ o :: L2).toArray false) Q E s:=by
  rw [ay] at h
  intro G a w hr
  refine wpIn_region ?_
  have hall : ∀ ops : Array Oper,(List.range ops.size).map (ops[·]?) = ops.toList.map some:=by
    intro ops
    apply List.ext_getElem?
    intro i
    simp only [List.getElem?_map]
    by_cases hi : i < ops.size
    · simp [hi]
    · simp [hi]
  have hmap:=hall (L1 ++ o :: L2).toArray
  generalize hI : List.range (L1 ++ o :: L2).toArray.size = I at hmap
  have h1 : (I.take L1.length).map ((L1 ++ o :: L2).toArray[·]?) = L1.map some:=by
    rw [List.map_take,hmap]; simp
  have h2 : (I.drop L1.length).map ((L1 ++ o :: L2).toArray[·]?) = (o :: L2).map some:=by
    rw [List.map_drop,hmap]; simp
  rw [← List.take_append_drop L1.length I]
  generalize I.take L1.length = I1 at h1
  generalize I.drop L1.length = I2 at h2
  cases I2 with
  | nil=>simp at h2
  | cons i I2 =>
    simp only [List.map_cons,List.cons.injEq] at h2
    refine AX_wpOps_append L1 I1 (i :: I2) h1 (AX_frame _ h) hr ?_
    rintro G1 E1 s1 a1 w1 hG1 hr1 ⟨⟨K1,hop,hk⟩,hfr1⟩
    rw [wpOpsIn_cons]
    simp only [wpOpIn,h2.1]
    rw [if_pos (wanted_none hg)]
    refine (Oper.wp_of_res hr1 hd (hop G1 a1 w1 hr1) ?_)
    intro G3 r s3 a3 w3 hG3 hr3 hK
    refine AX_wpOps L2 I2 h2.2 (AX_frame _ (hk r s3 hK)) hr3 ?_
    rintro G4 E4 s4 a4 w4 hG4 hr4 ⟨hk4,hfr4⟩
    refine ⟨G4,E4,s4,hG1.trans (hG3.trans hG4),hr4,hk4,?_⟩
    intro i hi
    have mem : ∀ L : List Oper,i ∈ dsts L↔∃ o ∈ L,o.dst = some i:=fun L=>by simp [dsts,List.mem_filterMap]
    have hi' : ¬ ∃ o' ∈ L1 ++ o :: L2,o'.dst = some i:=fun hm=>hi ((mem _).2 hm)
    have m1 : i ∉ dsts L1:=fun hm=>hi' (by obtain ⟨o,k1,k2⟩:=(mem _).1 hm; exact ⟨o,by simp [k1],k2⟩)
    have m2 : i ∉ dsts L2:=fun hm=>hi' (by obtain ⟨o,k1,k2⟩:=(mem _).1 hm; exact ⟨o,by simp [k1],k2⟩)
    have m3 : o.dst≠some i:=fun e=>hi' ⟨o,by simp,e⟩
    rw [hfr4 i m2,updO_other m3,hfr1 i m1]
end Go.AM
namespace Go.AM
open Go Go.RowKit
variable {P : Program} {Γ : Nat→List AV} {N : Nat} {x y : List AV}
theorem Settles.made {s : AS} {o n cap : Nat} {cs : List AV} {sp : Sp} (ho : s.objs o = none) (hl : cs.length = n) : Settles Γ (s.set o cs) (.osl o 0 1 n cap) s (.sl 1 n cs .any):=by
  have:=Settles.outer (Γ:=Γ) (s:=s.set o cs) (o:=o) (sz:=1) (n:=n) (cap:=cap) (cs:=cs) (rest:=[]) (by rw [AS.set_objs_same,List.append_nil]) (by omega)
  rwa [AS.drop_set ho] at this
end Go.AM
namespace Go.AM
open Go Go.RowKit
variable {P : Program} {Γ : Nat→List AV} {G : Gh} {s : AS} {w : World} {N : Nat} {E : Env}
def updL (E : Env) : List Tmp→List AV→Env
  | p :: ps,x :: xs=>updL (upd E p x) ps xs
  | _,_=>E
theorem tmps_updL {G : Gh} : ∀ (ps : List Tmp) (xs : List AV) (us : List Value) (E : Env) (t : Array Value),VRels G xs us→t.size = N→(∀ p ∈ ps,p < N)→(∀ i,VRel G (E i) (t.getD i undef)) →
    ((ps.zip us).foldl (fun t (pv : Tmp × Value)=>t.setIfInBounds pv.1 pv.2) t).size = N∧∀ i,VRel G (updL E ps xs i) (((ps.zip us).foldl (fun t (pv : Tmp × Value)=>t.setIfInBounds pv.1 pv.2) t).getD i undef)
  | [],xs,us,E,t,hv,hs,hp,h=>by simp only [updL,List.zip_nil_left,List.foldl_nil]; exact ⟨hs,h⟩
  | p :: ps,[],us,E,t,hv,hs,hp,h=>by simp only [VRels] at hv; subst hv; simp only [updL,List.zip_nil_right,List.foldl_nil]; exact ⟨hs,h⟩
  | p :: ps,x :: xs,us,E,t,hv,hs,hp,h=>by
    simp only [VRels] at hv
    obtain ⟨u,us',rfl,h1,h2⟩:=hv
    simp only [List.zip_cons_cons,List.foldl_cons,updL]
    refine tmps_updL ps xs us' (upd E p x) (t.setIfInBounds p u) h2 (by simpa using hs) (fun q hq=>hp q (by simp [hq])) fun i=>?_
    simp only [upd]
    split
    · rename_i e
      subst e
      have : i < t.size:=by rw [hs]; exact hp i (by simp)
      simpa [Array.getD,this] using h1
    · rename_i e
      have:=h i
      simp only [Array.getD_eq_getD_getElem?] at this ⊢
      rw [Array.getElem?_setIfInBounds_ne (by omega)]
      exact this
def FWp (P : Program) (Γ : Nat→List AV) (N : Nat) (rs : List ResultVar) (Post : AV→AS→Prop) (c : Code) (E : Env) (s : AS) : Prop :=
  ∀ (G : Gh) (a : Act) (w : World),G.df = []→Rel Γ N G E s a w→c.wpIn Fence.wide 0 P (fun e a' w'=>(e = .normal∨e = .ret)∧∃ D G' E' s',G.le G'∧(G.w0.heap.size≤D∧G.B≤D)∧w'.heap[D]? = some (.deferred (some [])) ∧
      a'.defers = [{ target:=.collected D,args:=#[] }]∧Rel Γ N (G'.setDf a'.defers) E' s' a' w'∧AEnds P rs Post E' s') a w
theorem acalls_fwp {f : FuncId} {fn : Func} {c : Code} {args : List AV} {Post : AV→AS→Prop} {s : AS} (hf : P.funcs[f]? = some fn) (hb : fn.body = some c) {n : Nat} (hN : fn.ntmps = n) {rs : Array ResultVar} (hrs : fn.results = rs) (hn : args.length≤n)
    (h : FWp P Γ n rs.toList Post c (initE args) s) : ACalls P Γ f args s Post:=by
  subst hN
  subst hrs
  exact acalls_of_range hf hb hn h
variable {rs : List ResultVar} {Post : AV→AS→Prop}
theorem fwp_seq {x y : Code} (h : AWp P Γ N x (fun e E' s'=>e = .normal∧FWp P Γ N rs Post y E' s') E s) : FWp P Γ N rs Post (.seq x y) E s:=by
  intro G a w hdf hr
  refine wpIn_seq (wpIn_mono (F:=fen none) (n:=0) (h G a w hr) ?_)
  rintro e a1 w1 ⟨G1,E1,s1,g1,g2,⟨rfl,k⟩,-⟩
  refine wpIn_mono (k G1 a1 w1 (g1.df.trans hdf) g2) ?_
  rintro e a' w' ⟨he,D,G',E',s',h1,h2,h3⟩
  exact ⟨he,D,G',E',s',g1.trans h1,by rw [← g1.w0,← g1.B]; exact h2,h3⟩
theorem fwp_reg {id : Nat} {L : List Oper} {y : Code} (h : ∀ K : Env→AS→Prop,(∀ E s,FWp P Γ N rs Post y E s→K E s)→AY P Γ N L.toArray L K E s) : FWp P Γ N rs Post (.seq (.region id L.toArray false) y) E s:=by
  refine fwp_seq (awp_region ?_)
  have:=h (fun E s=>Exit.normal = .normal∧FWp P Γ N rs Post y E s) fun E s k=>⟨rfl,k⟩
  rw [ay] at this
  simpa using this
end Go.AM
namespace Go.AM
open Go Go.RowKit
variable {P : Program} {Γ : Nat→List AV} {G : Gh} {s : AS} {w : World} {N : Nat} {E : Env}
theorem awp_region_at3y {Q : Exit→Env→AS→Prop} {id : Nat} {L2 : List Oper} {o1 o2 o3 o : Oper} (hg : o.guard = none) (hd : ∀ d,o.dst = some d→d < N)
    (h : ∀ ops,AY P Γ N ops [o1,o2,o3] (fun E1 s1=>∃ K1 : AV→AS→Prop,(∀ G a w,Rel Γ N G E1 s1 a w→OpRes P Γ G K1 ((execOp a.eval o).run P w)) ∧
      ∀ r s2,K1 r s2→AY P Γ N ops L2 (fun E' s'=>Q .normal E' s') (updO E1 o.dst r) s2) E s) :
    AWp P Γ N (.region id (o1 :: o2 :: o3 :: o :: L2).toArray false) Q E s :=
  awp_region_mid [o1,o2,o3] L2 hg hd (h _)
def YA (P : Program) (Γ : Nat→List AV) (G0 : Gh) (l : Nat) (x : List AV) (s1 : AS) (Post : AS→Prop) : Prop :=
  ∀ (G1 : Gh) (us : List Value) (W1 : World),G0.le G1→SRel Γ G1 s1 W1→VRels G1 x us→YieldAt Fence.wide 0 P l us.toArray W1 fun e W'=>e = .returned (.bool true)∧∃ G2 s2,G1.le G2∧SRel Γ G2 s2 W'∧Post s2
def YWp (P : Program) (Γ : Nat→List AV) (N : Nat) (G0 : Gh) (c : Code) (Q : Exit→Env→AS→Prop) (E : Env) (s : AS) : Prop :=
  ∀ (G : Gh) (a : Act) (w : World),G0.le G→Rel Γ N G E s a w →
    c.wpIn Fence.wide 0 P (fun e a' w'=>∃ G' E' s',G.le G'∧Rel Γ N G' E' s' a' w'∧Q e E' s'∧∀ i,i ∉ writes c→E' i = E i) a w
variable {G0 : Gh} {Q : Exit→Env→AS→Prop}
theorem AWp.y {c : Code} (h : AWp P Γ N c Q E s) : YWp P Γ N G0 c Q E s:=fun G a w _ hr=>h G a w hr (rd:=none)
theorem ywp_seq {x y : Code} (h : YWp P Γ N G0 x (thenQ (YWp P Γ N G0 y Q) Q) E s) : YWp P Γ N G0 (.seq x y) Q E s:=by
  intro G a w hG hr
  refine wpIn_seq (wpIn_mono (h G a w hG hr) ?_)
  rintro e a' w' ⟨G',E',s',h1,h2,h3,h4⟩
  have hw : ∀ i,i ∉ writes (.seq x y)→E' i = E i:=fun i hi=>h4 i (fun hm=>hi (by simp [writes,hm]))
  cases e <;> simp only [Exit.then,thenQ] at h3 ⊢
  case normal =>
    refine wpIn_mono (h3 G' a' w' (hG.trans h1) h2) ?_
    rintro e a'' w'' ⟨G'',E'',s'',k1,k2,k3,k4⟩
    exact ⟨G'',E'',s'',h1.trans k1,k2,k3,fun i hi=>by rw [k4 i (fun hm=>hi (by simp [writes,hm])),hw i hi]⟩
  all_goals exact ⟨G',E',s',h1,h2,h3,hw⟩
theorem ywp_block {id : Nat} {c : Code} (h : YWp P Γ N G0 c (blockQ id Q) E s) : YWp P Γ N G0 (.block id c) Q E s:=by
  intro G a w hG hr
  refine wpIn_block (wpIn_mono (h G a w hG hr) ?_)
  rintro e a' w' ⟨G',E',s',h1,h2,h3,h4⟩
  cases e <;> simp only [Exit.inBlock,blockQ] at h3 ⊢
  case exit id' =>
    split at h3
    · rename_i hid; rw [if_pos hid]; exact ⟨G',E',s',h1,h2,h3,h4⟩
    · rename_i hid; rw [if_neg hid]; exact ⟨G',E',s',h1,h2,h3,h4⟩
  all_goals exact ⟨G',E',s',h1,h2,h3,h4⟩
theorem ywp_loop {c : Code} (I : Env→AS→Prop) (μ : Env→AS→Nat) (h0 : I E s)
    (round : ∀ E' s',I E' s'→(∀ i,i ∉ writes c→E' i = E i)→YWp P Γ N G0 c (thenQ (fun E'' s''=>I E'' s''∧μ E'' s'' < μ E' s') Q) E' s') : YWp P Γ N G0 (.loop c) Q E s:=by
  intro G a w hG hr
  let Φ : Act→World→Gh→Env→AS→Prop:=fun a w G' E' s'=>G.le G'∧Rel Γ N G' E' s' a w∧I E' s'∧∀ i,i ∉ writes c→E' i = E i
  let C : Act→World→Nat→Prop:=fun a w n=>∃ G' E' s',Φ a w G' E' s'∧μ E' s' = n
  open Classical in
  let ν : Act→World→Nat:=fun a w=>if h : ∃ n,C a w n then Classical.choose (exists_least _ h) else 0
  refine wpIn_loop (fun a w=>∃ n,C a w n) ν ⟨_,G,E,s,⟨.refl G,hr,h0,fun _ _=>rfl⟩,rfl⟩ ?_
  intro a1 w1 hI
  have hν : ν a1 w1 = Classical.choose (exists_least _ hI):=by simp only [ν]; rw [dif_pos hI]
  obtain ⟨G1,E1,s1,⟨g1,g2,g3,g4⟩,g5⟩:=(Classical.choose_spec (exists_least _ hI)).1
  refine wpIn_mono (round E1 s1 g3 g4 G1 a1 w1 (hG.trans g1) g2) ?_
  rintro e a' w' ⟨G',E',s',h1,h2,h3,h4⟩
  have hw : ∀ i,i ∉ writes c→E' i = E i:=fun i hi=>by rw [h4 i hi,g4 i hi]
  cases e <;> simp only [Exit.then,thenQ] at h3 ⊢
  case normal =>
    have hC : ∃ n,C a' w' n:=⟨_,G',E',s',⟨g1.trans h1,h2,h3.1,hw⟩,rfl⟩
    refine ⟨hC,?_⟩
    have : ν a' w' = Classical.choose (exists_least _ hC):=by simp only [ν]; rw [dif_pos hC]
    rw [this,hν,← g5]
    exact Nat.lt_of_le_of_lt ((Classical.choose_spec (exists_least _ hC)).2 _ ⟨G',E',s',⟨g1.trans h1,h2,h3.1,hw⟩,rfl⟩) h3.2
  all_goals exact ⟨G',E',s',g1.trans h1,h2,h3,hw⟩
theorem run_yield_ops {ρ : Operand→Value} {o : Oper} {f : Operand} {xs : List Operand} {ts : Array TypeId} {l : Nat} (ho : o.op = .call { callee:=.value f,args:=xs.toArray,argTypes:=ts }) (hf : ρ f = .func (.yield l) #[] #[]) :
    (execOp ρ o).run P w = (Instr.yield l (xs.map ρ).toArray).run P w:=by
  obtain ⟨dst,op,type,pos,after,guard⟩:=o
  simp only at ho
  subst ho
  simp [execOp,resolve,hf,Deferred.ofValue,invoke]
theorem vrels_eval {G : Gh} {E : Env} {a : Act} {w : World} (hr : Rel Γ N G E s a w) : ∀ xs : List Operand,VRels G (xs.map (aeval Γ E)) (xs.map a.eval)
  | []=>by simp [VRels]
  | x :: xs=>by simp only [List.map_cons,VRels]; exact ⟨_,_,rfl,hr.eval x,vrels_eval hr xs⟩
theorem ywp_yield {l id : Nat} (L1 L2 : List Oper) {o : Oper} {f : Operand} {xs : List Operand} {ts : Array TypeId}
    (ho : o.op = .call { callee:=.value f,args:=xs.toArray,argTypes:=ts }) (hg : o.guard = none) (hd : ∀ d,o.dst = some d→d < N)
    (h1 : AY P Γ N (L1 ++ o :: L2).toArray L1 (fun E1 s1=>aeval Γ E1 f = .v (.func (.yield l) #[] #[])∧∃ Post,YA P Γ G0 l (xs.map (aeval Γ E1)) s1 Post ∧
      ∀ s2,Post s2→AY P Γ N (L1 ++ o :: L2).toArray L2 (fun E' s'=>Q .normal E' s') (updO E1 o.dst (.v (.bool true))) s2) E s) : YWp P Γ N G0 (.region id (L1 ++ o :: L2).toArray false) Q E s:=by
  intro G a w hG hr
  rw [ay] at h1
  refine wpIn_region ?_
  have hmap:=range_map (L1 ++ o :: L2).toArray
  generalize List.range (L1 ++ o :: L2).toArray.size = I at hmap ⊢
  obtain ⟨I1,i,I2,rfl,m1,mo,m2⟩:=split_ops (A:=L1) (B:=L2) (o:=o) hmap
  refine AX_wpOpsIn_append (l:=none) L1 I1 (i :: I2) m1 (AX_frame _ h1) hr ?_
  rintro G1 E1 s1 a1 w1 hG1 hr1 ⟨⟨hf,Post,hy,hk⟩,hfr1⟩
  have hfr:=hr1.eval f
  rw [hf] at hfr
  simp only [VRel] at hfr
  obtain ⟨fn,tmps,assign,body,q1,q2⟩:=hy G1 (xs.map a1.eval) w1 (hG.trans hG1) hr1.st (vrels_eval hr1 xs)
  simp only [wpOpsIn,mo]
  rw [if_pos (wanted_none hg)]
  refine ⟨fun _ _=>trivial,?_⟩
  rw [Oper.semAt_eq _ _ _ (by intro c; rw [ho]; simp),run_yield_ops ho hfr,q1]
  rw [Oper.uponIn_round]
  refine ⟨fun e=>(by cases e),RoundIn.mono (F:=Fence.wide) q2 ?_⟩
  rintro e W' ⟨rfl,G2,s2,g1,g2,g3⟩
  have g4:=hk s2 g3
  have hr2 : Rel Γ N G2 E1 s2 a1 W':=⟨g2,hr1.size,fun i=>VRel.mono g1 _ _ (hr1.tmps i),hr1.defers.trans g1.df.symm⟩
  have hr3:=hr2.put (dst:=o.dst) (Gh.le.refl G2) g2 (r:=.v (.bool true)) (v:=.bool true) (by simp [VRel]) hd
  refine AX_wpOpsIn (l:=none) L2 I2 m2 (AX_frame _ g4) hr3 ?_
  rintro G3 E3 s3 a3 w3 h3 hr3 ⟨hk3,hfr3⟩
  refine ⟨G3,E3,s3,hG1.trans (g1.trans h3),hr3,hk3,fun j hj=>?_⟩
  have mem : ∀ L : List Oper,j ∈ dsts L↔∃ o ∈ L,o.dst = some j:=fun L=>by simp [dsts,List.mem_filterMap]
  have hj' : ¬ ∃ o' ∈ L1 ++ o :: L2,o'.dst = some j:=fun hm=>hj ((mem _).2 hm)
  have m1 : j ∉ dsts L1:=fun hm=>hj' (by obtain ⟨o,k1,k2⟩:=(mem _).1 hm; exact ⟨o,by simp [k1],k2⟩)
  have m2 : j ∉ dsts L2:=fun hm=>hj' (by obtain ⟨o,k1,k2⟩:=(mem _).1 hm; exact ⟨o,by simp [k1],k2⟩)
  have m3 : o.dst≠some j:=fun e=>hj' ⟨o,by simp,e⟩
  rw [hfr3 j m2,updO_other m3,hfr1 j m1]
theorem ywp_yield2 {l id : Nat} {o1 o2 o p1 : Oper} {f : Operand} {xs : List Operand} {ts : Array TypeId} {code : Code}
    (ho : o.op = .call { callee:=.value f,args:=xs.toArray,argTypes:=ts }) (hg : o.guard = none) (hd : ∀ d,o.dst = some d→d < N)
    (h1 : ∀ (K : Env→AS→Prop),(∀ E s,YWp P Γ N G0 code Q E s→K E s)→∀ ops,AY P Γ N ops [o1,o2] (fun E1 s1=>aeval Γ E1 f = .v (.func (.yield l) #[] #[])∧∃ Post,YA P Γ G0 l (xs.map (aeval Γ E1)) s1 Post ∧
      ∀ s2,Post s2→AY P Γ N ops [p1] K (updO E1 o.dst (.v (.bool true))) s2) E s) : YWp P Γ N G0 (.seq (.region id #[o1,o2,o,p1] false) code) Q E s :=
  ywp_seq (ywp_yield [o1,o2] [p1] ho hg hd (h1 _ (fun _ _ h=>h) _))
end Go.AM
namespace Go.AM
open Go Go.RowKit
variable {P : Program} {Γ : Nat→List AV} {G : Gh} {s : AS} {w : World} {N : Nat} {E : Env}
def AS.mle (s s' : AS) : Prop:=∀ b m,s.maps b = some m→s'.maps b = some m
theorem AS.tells_turn {b : Nat} {l : List (Value × AV)} {es : Array MapEntry} {c : Nat} (h : s.maps b = some (.fix l es c)) : AS.tells Γ s (s.putM b (.map l)):=by
  intro G w hs
  obtain ⟨_,ob,m2,e,m3,m4⟩:=hs.maps b _ h
  exact hs.turnM h m2 ⟨es,c,e,m3,m4⟩
def IterM (P : Program) (Γ : Nat→List AV) (gf : FuncId) (caps : List AV) (Pre : AS→Prop) (A : List (List AV)→Prop) : Prop :=
  ∀ (I : List (List AV)→AS→Prop) (l : Nat) (s : AS) (G : Gh) (W : World) (lb : List Value),G.df = []→VRels G caps lb→(∀ ys s M,I ys s→I ys { s with maps:=M })→I [] s→Pre s→SRel Γ G s W →
    (∀ ys x s1 G1 us W1,(∃ zs,A (ys ++ x :: zs))→I ys s1→G.le G1→SRel Γ G1 s1 W1→VRels G1 x us→YieldAt Fence.wide 0 P l us.toArray W1 fun e W'=>e = .returned (.bool true)∧∃ G2 s2,G1.le G2∧SRel Γ G2 s2 W'∧I (ys ++ [x]) s2∧s2.maps = s1.maps) →
    CallsIn Fence.wide 0 P gf (#[.func (.yield l) #[] #[]] ++ lb.toArray) W fun e W'=>(∃ v,e = .returned v)∧∃ G2 s2,G.le G2∧SRel Γ G2 s2 W'∧(∃ ys,A ys∧I ys s2)∧AS.mle s s2
theorem wpIn_range_M {a : Act} {g : Operand} {ps : List Tmp} {assign body : Code} {gf : FuncId} {caps : List AV} {Pre : AS→Prop} {A : List (List AV)→Prop} (hr : Rel Γ N G E s a w) (hdf : G.df = []) (hg : aeval Γ E g = .clo gf caps) (hcb : callable P gf = true) (hit : IterM P Γ gf caps Pre A)
    (hp : ∀ p ∈ ps,p < N) (hxl : ∀ ys x zs,A (ys ++ x :: zs)→x.length = ps.length) (I : List (List AV)→AS→Prop) (hmI : ∀ ys s M,I ys s→I ys { s with maps:=M }) (h0 : I [] s) (hpre : Pre s)
    (hround : ∀ (ys : List (List AV)) (x : List AV) (s1 : AS),(∃ zs,A (ys ++ x :: zs))→I ys s1→AWp P Γ N assign (fun e E2 s2=>e = .normal∧AWp P Γ N body (fun e E3 s3=>e = .normal∧I (ys ++ [x]) s3∧s3.maps = s1.maps) E2 s2) (updL E ps x) s1) :
    (Code.rangeFunc g ps.toArray assign body).wpIn Fence.wide 0 P (fun e a' w'=>e = .normal∧∃ D G' s',G.le G'∧w.heap.size≤D∧w'.heap[D]? = some (.deferred (some [])) ∧
      a' = { a with defers:={ target:=.collected D,args:=#[] } :: a.defers }∧SRel Γ G' s' w'∧(∃ ys,A ys∧I ys s')∧AS.mle s s') a w:=by
  have hgv:=hr.eval g
  rw [hg] at hgv
  simp only [VRel] at hgv
  obtain ⟨lb,hg',hlb⟩:=hgv
  have hw0 : G.w0.heap.size≤w.heap.size:=hr.st.below.size
  have hBw : G.B≤w.heap.size:=hr.st.base
  refine wpIn_rangeFunc ?_
  intro fn hfn
  obtain ⟨rec,hrec⟩ : ∃ rec : LoopState→Option Code→Loop,rec = fun st pe=>{ state:=st,pending:=pe,fn,tmps:=a.tmps,params:=ps.toArray,assign,body,defers:=w.heap.size }:=⟨_,rfl⟩
  obtain ⟨W1,hW1⟩ : ∃ W1,(w.alloc (.deferred (some []))).alloc (.loop (rec .ready none)) = W1:=⟨_,rfl⟩
  have hL1 : W1.heap[w.heap.size + 1]? = some (.loop (rec .ready none)):=by
    rw [← hW1]; have:=World.alloc_heap_new (w.alloc (.deferred (some []))) (.loop (rec .ready none)); rwa [World.size_alloc] at this
  have hK1 : W1.heap[w.heap.size]? = some (.deferred (some [])):=by
    rw [← hW1]; exact (Below.heap_alloc _ _ _ (by simp)).trans (World.alloc_heap_new w _)
  have hs1 : SRel Γ G s W1:=by
    rw [← hW1]; exact (hr.st.alloc _ (by intro c T lo hi e; cases e)).alloc _ (by intro c T lo hi e; cases e)
  refine ⟨w.heap.size + 1,[{ target:=.collected w.heap.size,args:=#[] }],W1,{ target:=.fn (.func gf) lb.toArray,args:=#[.func (.yield (w.heap.size + 1)) #[] #[]] },W1,gf,
    #[.func (.yield (w.heap.size + 1)) #[] #[]] ++ lb.toArray,W1,?_,?_,?_,?_,(fun e=>by cases e),?_⟩
  · rw [← hW1,hrec]; exact run_enterLoop_outer _ _ _ _ _
  · simp only [resolve,hg']
    simp [go_sem]
  · intro f' _; trivial
  · have:=run_callFunc (w:=W1) hcb (#[.func (.yield (w.heap.size + 1)) #[] #[]] ++ lb.toArray)
    simpa [invoke,go_sem] using this
  · have hsW : SRel Γ (G.setW W1) s W1:=hs1.setW
    refine (hit I (w.heap.size + 1) s (G.setW W1) W1 lb hdf (VRels.sub (G.sub_setW W1) _ _ hlb) hmI h0 hpre hsW ?_).mono ?_
    · rintro ys x s1 G1 us W ⟨zs,hx⟩ hI hle h2 hu
      have hw1 : G1.w0 = W1:=hle.w0
      have hB1 : G1.B = G.B:=hle.B
      have hkW : Keeps W1 W:=by have:=h2.others; rwa [hw1] at this
      have hl:=hkW _ _ hL1 (by intros; simp)
      have hk:=hkW _ _ hK1 (by intros; simp)
      have hbW : Below G.B W1 W:=by have:=h2.below; rwa [hw1,hB1] at this
      obtain ⟨q1,q2⟩:=hs1.backW hle h2
      have hlt : w.heap.size + 1 < W.heap.size:=(Array.getElem?_eq_some_iff.1 hl).1
      have hy:=run_yield (P:=P) (args:=us.toArray) hl (by rw [hrec]; simp [← hu.length,hxl ys x zs hx])
      rw [hrec] at hy
      refine ⟨fn,_,assign,body,hy,roundIn_of_wpIn hfn ?_⟩
      have e3 : ((ps.toArray).zip us.toArray).foldl (fun t (p,v)=>t.setIfInBounds p v) a.tmps = (ps.zip us).foldl (fun t (pv : Tmp × Value)=>t.setIfInBounds pv.1 pv.2) a.tmps:=by simp
      have hrel0 : Rel Γ N ((G1.setW G.w0).setW W) (updL E ps x) s1 { tmps:=((ps.toArray).zip us.toArray).foldl (fun t (p,v)=>t.setIfInBounds p v) a.tmps,defers:=[] } W:=by
        rw [e3]
        have htm:=tmps_updL (G:=(G1.setW G.w0).setW W) ps x us E a.tmps (VRels.sub (G:=G1.setW G.w0) (Gh.sub_setW _ _) _ _ (VRels.sub (G1.sub_setW G.w0) _ _ hu)) hr.size hp fun k=>VRel.sub (G:=G1.setW G.w0) (Gh.sub_setW _ _) _ _ (VRel.mono q2 _ _ (hr.tmps k))
        exact ⟨q1.setW,htm.1,htm.2,by rw [show ((G1.setW G.w0).setW W).df = G1.df from rfl,hle.df]; exact hdf.symm⟩
      refine wpIn_mono (hround ys x s1 ⟨zs,hx⟩ hI _ _ W hrel0 (rd:=some (w.heap.size + 1))) ?_
      rintro e a1 Wa ⟨Ga,E2,s2,ga1,ga2,⟨rfl,hbd⟩,-⟩
      have hka : Keeps W Wa:=by
        have:=ga2.st.others
        rwa [show Ga.w0 = W from ga1.w0] at this
      have hba : Below G.B W Wa:=by
        have:=ga2.st.below
        rwa [show Ga.w0 = W from ga1.w0,show Ga.B = G.B from ga1.B.trans hB1] at this
      have hla:=hka _ _ hl (by intros; simp)
      have hkda:=hka _ _ hk (by intros; simp)
      obtain ⟨gb1,gb2⟩:=q1.backW ga1 ga2.st
      refine ⟨_,run_beginRound hla (by rw [hrec]),?_⟩
      have hlta : w.heap.size + 1 < Wa.heap.size:=(Array.getElem?_eq_some_iff.1 hla).1
      obtain ⟨W2,hW2⟩ : ∃ W2,Wa.putObj (w.heap.size + 1) (.loop { rec .ready none with state:=.busy }) = W2:=⟨_,rfl⟩
      have hl2 : W2.heap[w.heap.size + 1]? = some (.loop { rec .ready none with state:=.busy }):=by rw [← hW2]; exact World.putObj_heap_same hlta
      have hBa : Ga.B = G.B:=ga1.B.trans hB1
      have hs2 : SRel Γ (Ga.setW G.w0) s2 W2:=by
        rw [← hW2]
        exact gb1.putObj hla (by intros; simp) (by intros; simp) (by intros; simp) (by show G.w0.heap.size≤_; omega) (by show Ga.B≤_; omega)
      rw [hW2]
      have hrel : Rel Γ N ((Ga.setW G.w0).setW W2) E2 s2 a1 W2 :=
        ⟨hs2.setW,ga2.size,fun k=>VRel.sub (G:=Ga) (G':=(Ga.setW G.w0).setW W2) ⟨rfl,rfl,rfl,rfl⟩ _ _ (ga2.tmps k),ga2.defers⟩
      refine wpIn_mono (hbd _ _ W2 hrel (rd:=some (w.heap.size + 1))) ?_
      rintro e a3 W3 ⟨G2,E3,s3,g1,⟨g2,-,-,-⟩,⟨rfl,hI3⟩,-⟩
      have hw3 : G2.w0 = W2:=g1.w0
      have hB3 : G2.B = G.B:=g1.B.trans hBa
      have hkp : Keeps W2 W3:=by
        have:=g2.others
        rwa [hw3] at this
      have hb3 : Below G.B W2 W3:=by
        have:=g2.below
        rwa [hw3,hB3] at this
      have hl3:=hkp _ _ hl2 (by intros; simp)
      obtain ⟨g3,g4⟩:=hs2.backW g1 g2
      have hr3 : (Instr.endRound (w.heap.size + 1) none).run P W3 = .ok (.bool true) (W3.putObj (w.heap.size + 1) (.loop (rec .ready none))):=by
        have:=run_endRound (P:=P) none hl3
        rw [hrec] at this ⊢
        exact this
      have hlt3 : w.heap.size + 1 < W3.heap.size:=(Array.getElem?_eq_some_iff.1 hl3).1
      have hs4:=g3.putObj (o':=.loop (rec .ready none)) hl3 (by intros; simp) (by intros; simp) (by intros; simp) (by show G.w0.heap.size≤_; omega) (by show G2.B≤_; omega)
      have hgr : ∀ (V : World) (o : Obj),w.heap.size + 1 < V.heap.size→Below G.B V (V.putObj (w.heap.size + 1) o):=fun V o hV =>
        (Below.refl _ _).grown (row:=some (w.heap.size + 1)) ⟨rfl,rfl,rfl,by simp [World.putObj],fun i _ hi=>World.putObj_heap_other (fun e=>hi (by rw [e]))⟩ (by omega) (fun i e=>by cases e; omega)
      refine ⟨_,_,hr3,rfl,G2.setW W1,s3,?_,?_,hI3⟩
      · exact ⟨fun b j v hv=>g1.ro b j v (ga1.ro b j v hv),fun o b hb=>g1.obj o b (ga1.obj o b hb),fun t e r ht=>g1.tok t e r (ga1.tok t e r ht),g1.B.trans ga1.B,hw1.symm,g1.df.trans ga1.df⟩
      · refine hs4.sub (G:=G2.setW G.w0) (G':=G2.setW W1) ⟨rfl,rfl,rfl,rfl⟩ rfl rfl ?_ ?_
        · show Below G2.B W1 _
          rw [hB3]
          refine (hbW.trans hba).trans (Below.trans ?_ (hb3.trans (hgr _ _ hlt3)))
          rw [← hW2]
          exact hgr _ _ hlta
        · intro k o hko hno
          replace hko : W1.heap[k]? = some o:=hko
          by_cases e : k = w.heap.size + 1
          · subst e
            rw [hL1] at hko
            cases hko
            exact World.putObj_heap_same hlt3
          · rw [World.putObj_heap_other e]
            refine hkp k o ?_ hno
            rw [← hW2,World.putObj_heap_other e]
            exact hka k o (hkW k o hko hno) hno
    · rintro e W2 ⟨⟨v,rfl⟩,G2,s2,h1,h2,hI2⟩
      have hw1 : G2.w0 = W1:=h1.w0
      have hkW : Keeps W1 W2:=by have:=h2.others; rwa [hw1] at this
      have hl:=hkW _ _ hL1 (by intros; simp)
      have hk:=hkW _ _ hK1 (by intros; simp)
      obtain ⟨q1,q2⟩:=hs1.backW h1 h2
      refine ⟨none,_,by have:=run_endLoop (P:=P) hl (by rw [hrec]; simp); rw [hrec] at this; exact this,rfl,w.heap.size,G2.setW G.w0,s2,q2,Nat.le_refl _,(World.putObj_heap_other (by omega)).trans hk,rfl,?_,hI2⟩
      rw [hrec] at hl
      exact q1.putObj hl (by intros; simp) (by intros; simp) (by intros; simp) (by show G.w0.heap.size≤_; omega) (by rw [show (G2.setW G.w0).B = G2.B from rfl,h1.B]; show G.B≤_; omega)
variable {rs : List ResultVar} {Post : AV→AS→Prop}
def RangeM (P : Program) (Γ : Nat→List AV) (N : Nat) (rs : List ResultVar) (Post : AV→AS→Prop) (g : Operand) (ps : List Tmp) (assign body rest : Code) (E : Env) (s : AS) : Prop :=
  ∃ (gf : FuncId) (caps : List AV) (Pre : AS→Prop) (A : List (List AV)→Prop) (I : List (List AV)→AS→Prop),aeval Γ E g = .clo gf caps∧callable P gf = true∧IterM P Γ gf caps Pre A∧(∀ ys x zs,A (ys ++ x :: zs)→x.length = ps.length) ∧
    (∀ ys s M,I ys s→I ys { s with maps:=M })∧I [] s∧Pre s ∧
    (∀ (ys : List (List AV)) (x : List AV) (s1 : AS),(∃ zs,A (ys ++ x :: zs))→I ys s1→AWp P Γ N assign (fun e E2 s2=>e = .normal∧AWp P Γ N body (fun e E3 s3=>e = .normal∧I (ys ++ [x]) s3∧s3.maps = s1.maps) E2 s2) (updL E ps x) s1) ∧
    ∀ s2 ys,A ys→I ys s2→AS.mle s s2→AWp P Γ N rest (retQ P rs Post) E s2
theorem fwp_rangeM {b : Nat} {x : Code} {g : Operand} {ps : List Tmp} {assign body rest : Code} (hp : ∀ p ∈ ps,p < N)
    (h : AWp P Γ N x (fun e E' s'=>e = .normal∧RangeM P Γ N rs Post g ps assign body rest E' s') E s) : FWp P Γ N rs Post (.seq (.seq x (.block b (.rangeFunc g ps.toArray assign body))) rest) E s:=by
  intro G a w hdf hr
  refine wpIn_seq (wpIn_seq (wpIn_mono (F:=fen none) (n:=0) (h G a w hr) ?_))
  rintro e a1 w1 ⟨G1,E1,s1,g1,g2,⟨rfl,gf,caps,Pre,A,I,q1,q2,q3,q4,q8,q5,q9,q6,q7⟩,-⟩
  have hdf1 : G1.df = []:=g1.df.trans hdf
  refine wpIn_block (wpIn_mono (wpIn_range_M g2 hdf1 q1 q2 q3 hp q4 I q8 q5 q9 q6) ?_)
  rintro e a2 w2 ⟨rfl,D,G2,s2,h1,hD,hk,rfl,hs,⟨ys,hA,hI⟩,hm⟩
  have hsz:=g2.st.below.size
  have hbs:=g2.st.base
  refine AWp.behind g2 h1 hk hs hdf1 (q7 s2 ys hA hI hm) ?_
  intro e G3 E3 s3 a3 w3 j1 j2 j3 j4 j5
  have hf : AEnds P rs Post E3 s3∧(e = .normal∨e = .ret):=by
    cases e <;> simp only [retQ] at j5
    · exact ⟨j5,.inl rfl⟩
    · exact ⟨j5,.inr rfl⟩
  exact ⟨hf.2,D,G3,E3,s3,g1.trans j1,⟨by rw [← g1.w0]; omega,by rw [← g1.B]; omega⟩,j2,j3,j4,hf.1⟩
theorem fwp_range_regM {id b : Nat} {L : List Oper} {g : Operand} {ps : List Tmp} {assign body rest : Code} (hp : ∀ p ∈ ps,p < N)
    (h : ∀ K : Env→AS→Prop,(∀ E s,RangeM P Γ N rs Post g ps assign body rest E s→K E s)→AY P Γ N L.toArray L K E s) : FWp P Γ N rs Post (.seq (.seq (.region id L.toArray false) (.block b (.rangeFunc g ps.toArray assign body))) rest) E s:=by
  refine fwp_rangeM hp (awp_region ?_)
  have:=h (fun E s=>Exit.normal = .normal∧RangeM P Γ N rs Post g ps assign body rest E s) fun E s k=>⟨rfl,k⟩
  rw [ay] at this
  simpa using this
theorem iterM_of {gf : FuncId} {fn : Func} {c : Code} {caps : List AV} {Pre : AS→Prop} {A : List (List AV)→Prop} (hf : P.funcs[gf]? = some fn) (hb : fn.body = some c) {n : Nat} (hN : fn.ntmps = n) (hrs : fn.results = #[]) (hn : caps.length + 1≤n)
    (h : ∀ (I : List (List AV)→AS→Prop) (l : Nat) (s : AS) (G : Gh),(∀ ys s M,I ys s→I ys { s with maps:=M })→I [] s→Pre s→(∀ ys x s1,(∃ zs,A (ys ++ x :: zs))→I ys s1→YA P Γ G l x s1 (fun s2=>I (ys ++ [x]) s2∧s2.maps = s1.maps)) →
      YWp P Γ n G c (fun e _ s'=>(e = .normal∨e = .ret)∧(∃ ys,A ys∧I ys s')∧AS.mle s s') (initE (.v (.func (.yield l) #[] #[]) :: caps)) s) : IterM P Γ gf caps Pre A:=by
  subst hN
  intro I l s G W lb hdf hlb hmI h0 hpre hs hy
  refine callsIn_of_wp hf hb trivial ?_
  have hent:=Rel.entry (N:=fn.ntmps) (args:=.v (.func (.yield l) #[] #[]) :: caps) (vs:=.func (.yield l) #[] #[] :: lb) hs (by simp only [VRels]; exact ⟨_,_,rfl,by simp [VRel],hlb⟩) (by simpa using hn) hdf
  rw [show (#[.func (.yield l) #[] #[]] ++ lb.toArray : Array Value) = (.func (.yield l) #[] #[] :: lb).toArray from by simp]
  refine wpIn_mono (h I l s G hmI h0 hpre (fun i x s1 hx hI G1 us W1 hle h2 hu=>hy i x s1 G1 us W1 hx hI hle h2 hu) G _ W (.refl G) hent) ?_
  rintro e a' w' ⟨G',E',s',h1,h2,⟨h3,h4⟩,-⟩
  have fin : bodyPost P fn (fun e W'=>(∃ v,e = .returned v)∧∃ G2 s2,G.le G2∧SRel Γ G2 s2 W'∧(∃ ys,A ys∧I ys s2)∧AS.mle s s2) .normal a' w':=by
    refine ⟨h2.defers.trans (h1.df.trans hdf),.tuple #[],?_,⟨_,rfl⟩,G',s',h1,h2.st,h4⟩
    rw [results_eq,hrs]
    simp
  rcases h3 with rfl | rfl
  · exact fin
  · exact fin
theorem ywp_tells {G0 : Gh} {c : Code} {Q : Exit→Env→AS→Prop} {s' : AS} (h : AS.tells Γ s s') (k : YWp P Γ N G0 c Q E s') : YWp P Γ N G0 c Q E s :=
  fun G a w hG hr=>k G a w hG ⟨h G w hr.st,hr.size,hr.tmps,hr.defers⟩
end Go.AM
namespace Go.AM
open Go Go.RowKit
variable {rd : Option Nat} {P : Program} {Γ : Nat→List AV} {G : Gh} {s : AS} {w : World} {N : Nat} {ops : Array Oper}
inductive SM where
  | val
  | giv (v : AV)
  | eff
def SM.isEff : SM→Bool
  | .eff=>true
  | _=>false
def SM.isVal : SM→Bool
  | .val=>true
  | _=>false
def GivS (P : Program) (Γ : Nat→List AV) (ops : Array Oper) (o : Oper) (E : Env) (s : AS) (v : AV) : Prop:=gokB ops o E∧astep P Γ (aeval Γ E) s (fun r s'=>r = v∧s' = s) o.op
def SV (P : Program) (Γ : Nat→List AV) (ops : Array Oper) (m : SM) (o : Oper) (E : Env) (s : AS) (v : AV) : Prop :=
  match m with
  | .val=>pval P Γ ops o E = some v
  | .giv u=>v = u∧GivS P Γ ops o E s u
  | .eff=>False
def AXs (P : Program) (Γ : Nat→List AV) (N : Nat) (ops : Array Oper) : List (Oper × SM)→(Env→AS→Prop)→Env→AS→Prop
  | [],K,E,s=>K E s
  | (o,m) :: rest,K,E,s =>
    if m.isEff = true then AX P Γ N ops [o] (AXs P Γ N ops rest K) E s
    else (∀ d,o.dst = some d→d < N)∧∃ v,SV P Γ ops m o E s v∧AXs P Γ N ops rest K (updO E o.dst v) s
theorem sv_congr {m : SM} {o : Oper} {E E' : Env} {v : AV} (h : ∀ d,d ∈ o.looksAt ops→E' d = E d) (hv : SV P Γ ops m o E s v) : SV P Γ ops m o E' s v:=by
  have hop : ∀ x ∈ o.op.operands,aeval Γ E' x = aeval Γ E x:=fun x hx=>by
    cases x with
    | tmp t=>exact h t (List.mem_append_left _ (List.mem_filterMap.2 ⟨.tmp t,by simpa using hx,rfl⟩))
    | const v=>rfl
    | global g=>rfl
    | func f=>rfl
  cases m with
  | giv u=>exact ⟨hv.1,gok_congr h hv.2.1,(astep_congr hop).2 hv.2.2⟩
  | val=>exact (pval_congr h).trans hv
  | eff=>exact hv
theorem sv_unique {m : SM} {o : Oper} {E : Env} {v v' : AV} (h : SV P Γ ops m o E s v) (h' : SV P Γ ops m o E s v') : v = v':=by
  cases m with
  | giv u=>exact h.1.trans h'.1.symm
  | val=>exact Option.some.inj (Eq.trans (Eq.symm h) h')
  | eff=>exact h.elim
theorem AXs_AX {o : Oper} {m : SM} {L : List (Oper × SM)} {E : Env} {K : Env→AS→Prop} (h : AXs P Γ N ops ((o,m) :: L) K E s) : AX P Γ N ops [o] (AXs P Γ N ops L K) E s:=by
  cases m with
  | eff=>simpa only [AXs,SM.isEff,if_true] using h
  | giv u =>
    simp only [AXs,SM.isEff,Bool.false_eq_true,if_false] at h
    obtain ⟨hd,v,⟨rfl,hg,hv⟩,h⟩:=h
    refine (gok_AX hg).2 ?_
    simp only [AX]
    exact ⟨hd,astep_mono (fun r s' ⟨h1,h2⟩=>by subst h1 h2; exact h) hv⟩
  | val =>
    simp only [AXs,SM.isEff,Bool.false_eq_true,if_false] at h
    exact AXg_AX (m:=.val) (L:=[]) (K:=AXs P Γ N ops L K) (by intro e; cases e) (by simpa only [AXg,GV,SV,SM.isEff,Mk.isEff,Bool.false_eq_true,if_false] using h)
theorem AXs_some {o : Oper} {m : SM} {L : List (Oper × SM)} {E : Env} {a : Act} {K : Env→AS→Prop} (h : AXs P Γ N ops ((o,m) :: L) K E s) (hr : Rel Γ N G E s a w) :
    ∃ G' E' s' a' w',Rel Γ N G' E' s' a' w'∧AXs P Γ N ops L K E' s'∧(∀ i,o.dst≠some i→E' i = E i)∧(m.isEff = false→s' = s):=by
  cases hm : m.isEff with
  | true =>
    obtain ⟨G',E',s',a',w',h1,h2,h3⟩:=AX_one_some (AXs_AX h) hr
    exact ⟨G',E',s',a',w',h1,h2,h3,fun e=>by cases e⟩
  | false =>
    have h0:=h
    simp only [AXs,hm,Bool.false_eq_true,if_false] at h0
    obtain ⟨hd,v,hv,h0⟩:=h0
    have h1 : AXs P Γ N ops [(o,m)] (fun E' s'=>s' = s∧E' = updO E o.dst v) E s:=by
      simp only [AXs,hm,Bool.false_eq_true,if_false]
      exact ⟨hd,v,hv,by simp⟩
    obtain ⟨G',E',s',a',w',k1,⟨rfl,rfl⟩,k3⟩:=AX_one_some (AXs_AX h1) hr
    exact ⟨G',_,_,a',w',k1,h0,k3,fun _=>rfl⟩
def SM.free (x y : SM) : Bool:=x.isVal || y.isVal || (!x.isEff && !y.isEff)
theorem sv_later {y : Oper} {m : SM} (hm : m.isEff = false) {L2 : List (Oper × SM)} {K : Env→AS→Prop} : ∀ (L1 : List (Oper × SM)) {G : Gh} {E : Env} {s : AS} {a : Act} {w : World},(∀ x ∈ L1,Apart ops x.1 y∧x.2.free m = true)→AXs P Γ N ops (L1 ++ (y,m) :: L2) K E s→Rel Γ N G E s a w →
    (∀ d,y.dst = some d→d < N)∧∃ v,SV P Γ ops m y E s v
  | [],G,E,s,a,w,_,h,hr=>by
    simp only [List.nil_append,AXs,hm,Bool.false_eq_true,if_false] at h
    obtain ⟨h1,v,h2,_⟩:=h
    exact ⟨h1,v,h2⟩
  | (x,ex) :: L1,G,E,s,a,w,hap,h,hr=>by
    obtain ⟨hap1,hfr⟩:=hap (x,ex) (by simp)
    obtain ⟨G',E',s',a',w',hr',hK,hf,hst⟩:=AXs_some h hr
    obtain ⟨h1,v,h2⟩:=sv_later hm L1 (fun x hx=>hap x (List.mem_cons_of_mem _ hx)) hK hr'
    have h3 : SV P Γ ops m y E s' v:=sv_congr (fun d hd=>(hf d fun e=>(Oper.apart_spec hap1).1 d e hd).symm) h2
    refine ⟨h1,v,?_⟩
    cases hx : ex.isEff with
    | false=>rw [hst hx] at h3; exact h3
    | true =>
      cases m with
      | val=>exact h3
      | eff=>cases hm
      | giv u=>cases ex <;> simp_all [SM.free,SM.isVal,SM.isEff]
theorem AXs_first_val {y : Oper} {m : SM} (hm : m.isEff = false) {L2 : List (Oper × SM)} {K : Env→AS→Prop} {v : AV} : ∀ (L1 : List (Oper × SM)) {E : Env} {s : AS},(∀ x ∈ L1,Apart ops x.1 y∧x.2.free m = true)→SV P Γ ops m y E s v→AXs P Γ N ops (L1 ++ (y,m) :: L2) K E s →
    AXs P Γ N ops (L1 ++ L2) K (updO E y.dst v) s
  | [],E,s,_,hv,h=>by
    simp only [List.nil_append,AXs,hm,Bool.false_eq_true,if_false] at h
    obtain ⟨_,u,hu,h⟩:=h
    rw [sv_unique hv hu]
    exact h
  | (x,ex) :: L1,E,s,hap,hv,h=>by
    obtain ⟨hap1,hfr⟩:=hap (x,ex) (by simp)
    obtain ⟨a1,a2,a3⟩:=Oper.apart_spec hap1
    have hap' : ∀ x ∈ L1,Apart ops x.1 y∧x.2.free m = true:=fun x hx=>hap x (List.mem_cons_of_mem _ hx)
    have hv' : ∀ E' : Env,(∀ i,x.dst≠some i→E' i = E i)→SV P Γ ops m y E' s v:=fun E' hE=>sv_congr (fun d hd=>hE d fun e=>a1 d e hd) hv
    simp only [List.cons_append,AXs] at h ⊢
    split at h
    · rename_i he
      rw [if_pos he]
      have hval : ∀ E' s',(∀ i,x.dst≠some i→E' i = E i)→SV P Γ ops m y E' s' v:=by
        intro E' s' hE
        have:=hv' E' hE
        cases m with
        | val=>exact this
        | eff=>cases hm
        | giv u=>cases ex <;> simp_all [SM.free,SM.isVal,SM.isEff]
      refine (AX_put (fun d hd=>a3 d hd) (fun d hd e=>a2 d e hd)).2 ?_
      refine AX_mono _ (fun E' s' hE=>?_) (AX_one_frame h)
      exact AXs_first_val hm L1 hap' (hval E' s' hE.2) hE.1
    · rename_i he
      rw [if_neg he]
      obtain ⟨h0,u,hu,h⟩:=h
      refine ⟨h0,u,sv_congr (fun d hd=>updO_other fun e=>a3 d e hd) hu,?_⟩
      rw [updO_comm (fun d h1 h2=>a2 d h2 h1)]
      exact AXs_first_val hm L1 hap' (hv' _ fun i hi=>updO_other hi) h
theorem AXs_first_eff {y : Oper} {L2 : List (Oper × SM)} {K : Env→AS→Prop} : ∀ (L1 : List (Oper × SM)) {E : Env} {s : AS},(∀ x ∈ L1,Apart ops x.1 y∧x.2.free .eff = true)→AXs P Γ N ops (L1 ++ (y,.eff) :: L2) K E s →
    AX P Γ N ops [y] (AXs P Γ N ops (L1 ++ L2) K) E s
  | [],E,s,_,h=>by simpa only [List.nil_append,AXs,SM.isEff,if_true] using h
  | (x,ex) :: L1,E,s,hap,h=>by
    obtain ⟨hap0,hex⟩:=hap (x,ex) (by simp)
    obtain ⟨a1,a2,a3⟩:=Oper.apart_spec hap0
    have hap' : ∀ x ∈ L1,Apart ops x.1 y∧x.2.free .eff = true:=fun x hx=>hap x (List.mem_cons_of_mem _ hx)
    obtain rfl : ex = .val:=by cases ex <;> simp_all [SM.free,SM.isVal,SM.isEff]
    simp only [List.cons_append,AXs,SM.isEff,Bool.false_eq_true,if_false] at h
    obtain ⟨h0,v,hv,h⟩:=h
    have h1:=AXs_first_eff L1 hap' h
    have h2:=(AX_put (fun d hd=>a1 d hd) (fun d hd=>a2 d hd)).1 h1
    refine AX_mono _ (fun E' s' hE=>?_) (AX_one_frame h2)
    simp only [List.cons_append,AXs,SM.isEff,Bool.false_eq_true,if_false]
    exact ⟨h0,v,sv_congr (m:=.val) (s:=s) (fun d hd=>hE.2 d fun e=>a3 d e hd) hv,hE.1⟩
theorem AXs_mono : ∀ (L : List (Oper × SM)) {K K' : Env→AS→Prop} {E : Env} {s : AS},(∀ E s,K E s→K' E s)→AXs P Γ N ops L K E s→AXs P Γ N ops L K' E s
  | [],K,K',E,s,hk,h=>hk _ _ h
  | x :: L,K,K',E,s,hk,h=>by
    simp only [AXs] at h ⊢
    split at h
    · rename_i he; rw [if_pos he]; exact AX_mono _ (fun E s h=>AXs_mono L hk h) h
    · rename_i he
      rw [if_neg he]
      obtain ⟨h0,v,hv,h⟩:=h
      exact ⟨h0,v,hv,AXs_mono L hk h⟩
theorem AXs_frame : ∀ (L : List (Oper × SM)) {K : Env→AS→Prop} {E : Env} {s : AS},AXs P Γ N ops L K E s→AXs P Γ N ops L (fun E' s'=>K E' s'∧∀ i,i ∉ dsts (L.map (·.1))→E' i = E i) E s
  | [],K,E,s,h=>⟨h,fun _ _=>rfl⟩
  | (o,mm) :: L,K,E,s,h=>by
    have hmem : ∀ i,i ∉ dsts (((o,mm) :: L).map (·.1))→i ∉ dsts (L.map (·.1))∧o.dst≠some i:=by
      intro i hi
      simp only [dsts,List.map_cons,List.filterMap_cons] at hi
      refine ⟨fun hm=>hi ?_,fun e=>hi (by simp [e])⟩
      simp only [dsts] at hm
      split
      · exact hm
      · exact List.mem_cons_of_mem _ hm
    simp only [AXs] at h ⊢
    split at h
    · rename_i he
      rw [if_pos he]
      refine AX_mono _ (fun E' s' hE=>?_) (AX_one_frame h)
      refine AXs_mono L (fun E'' s'' hE'=>⟨hE'.1,fun i hi=>?_⟩) (AXs_frame L hE.1)
      obtain ⟨m1,m2⟩:=hmem i hi
      rw [hE'.2 i m1,hE.2 i m2]
    · rename_i he
      rw [if_neg he]
      obtain ⟨h0,v,hv,h⟩:=h
      refine ⟨h0,v,hv,AXs_mono L (fun E'' s'' hE'=>⟨hE'.1,fun i hi=>?_⟩) (AXs_frame L h)⟩
      obtain ⟨m1,m2⟩:=hmem i hi
      rw [hE'.2 i m1,updO_other m2]
def opAtS (ops : Array Oper) (mk : Nat→SM) (i : Nat) : Oper × SM:=((ops[i]?).getD default,mk i)
def okS (ops : Array Oper) (D : List Nat) (mk : Nat→SM) (x y i j : Nat) : Bool :=
  (D.getD j 0).testBit i || (((ops[i]?).getD default).apart ops ((ops[j]?).getD default) && (mk i).free (mk j)) || (i == x && j == y)
def pwS (R : Nat→Nat→Bool) : List Nat→Bool
  | []=>true
  | i :: l=>l.all (fun j=>R i j && i != j) && pwS R l
def ordS (ops : Array Oper) (D : List Nat) (mk : Nat→SM) (x y : Nat) (π : List Nat) : Bool:=pwS (okS ops D mk x y) π && ((List.range ops.size).all fun i=>π.contains i) && π.all fun i=>decide (i < ops.size)
def lft (π : List Nat) (listed : Array Bool) : List Nat:=π.filter fun i=>!listed.getD i true
theorem lft_set {R : Nat→Nat→Bool} {listed : Array Bool} {i : Nat} (hi : i < listed.size) (h0 : listed.getD i true = false) : ∀ {π : List Nat},pwS R π = true→i ∈ π →
    ∃ L1 L2,lft π listed = L1 ++ i :: L2∧lft π (listed.setIfInBounds i true) = L1 ++ L2∧∀ z ∈ L1,R z i = true∧z≠i∧listed.getD z true = false
  | [],_,h=>by cases h
  | k :: π,hp,hm=>by
    simp only [pwS,Bool.and_eq_true,List.all_eq_true,bne_iff_ne] at hp
    obtain ⟨h1,h2⟩:=hp
    have hset : ∀ z,z≠i→(listed.setIfInBounds i true).getD z true = listed.getD z true:=by
      intro z hz
      simp only [Array.getD_eq_getD_getElem?]
      rw [Array.getElem?_setIfInBounds_ne (by omega)]
    have hsi : (listed.setIfInBounds i true).getD i true = true:=by
      simp [Array.getD_eq_getD_getElem?,hi]
    by_cases e : k = i
    · subst e
      refine ⟨[],lft π listed,?_,?_,by simp⟩
      · simp only [lft,List.filter_cons,h0,Bool.not_false,if_true,List.nil_append]
      · simp only [lft,List.filter_cons,hsi,Bool.not_true,Bool.false_eq_true,if_false,List.nil_append]
        apply List.filter_congr
        intro z hz
        rw [hset z (fun q=>(h1 z hz).2 q.symm)]
    · obtain ⟨L1,L2,q1,q2,q3⟩:=lft_set (R:=R) hi h0 h2 ((List.mem_cons.1 hm).resolve_left fun q=>e q.symm)
      cases hk : listed.getD k true with
      | true =>
        refine ⟨L1,L2,?_,?_,q3⟩
        · simp only [lft,List.filter_cons,hk,Bool.not_true,Bool.false_eq_true,if_false]; exact q1
        · simp only [lft,List.filter_cons,hset k e,hk,Bool.not_true,Bool.false_eq_true,if_false]; exact q2
      | false =>
        refine ⟨k :: L1,L2,?_,?_,?_⟩
        · simp only [lft,List.filter_cons,hk,Bool.not_false,if_true,List.cons_append]; rw [← q1]; rfl
        · simp only [lft,List.filter_cons,hset k e,hk,Bool.not_false,if_true,List.cons_append]; rw [← q2]; rfl
        · intro z hz
          rcases List.mem_cons.1 hz with rfl | hz
          · have hm' : i ∈ π:=(List.mem_cons.1 hm).resolve_left fun q=>e q.symm
            exact ⟨(h1 i hm').1,e,hk⟩
          · exact q3 z hz
theorem okS_spec {D : List Nat} {mk : Nat→SM} {x y i j : Nat} {o : Oper} (ho : ops[j]? = some o) (h : okS ops D mk x y i j = true) : (D.getD j 0).testBit i = true∨(Apart ops ((ops[i]?).getD default) o∧(mk i).free (mk j) = true)∨(i = x∧j = y):=by
  simp only [okS,Bool.or_eq_true,Bool.and_eq_true,beq_iff_eq,ho,Option.getD_some] at h
  rcases h with (h | h) | h
  · exact .inl h
  · exact .inr (.inl h)
  · exact .inr (.inr h)
theorem ready_nil {listed : Array Bool} (hdep : depEq ops (Region.before ops).toList = true) (h : Region.ready .any ops listed = []) : left ops listed = []:=by
  cases hl : left ops listed with
  | nil=>rfl
  | cons i L =>
    exfalso
    have hi : i ∈ left ops listed:=by rw [hl]; simp
    obtain ⟨h1,h2⟩:=mem_left.1 hi
    have hmin : ∀ j,j < i→listed.getD j true = true:=by
      intro j hj
      cases hjl : listed.getD j true with
      | true=>rfl
      | false =>
        exfalso
        have hjm : j ∈ left ops listed:=mem_left.2 ⟨by omega,hjl⟩
        have hs : (left ops listed).Pairwise (· < ·):=by
          unfold left
          exact List.Pairwise.filter _ List.pairwise_lt_range
        rw [hl] at hs hjm
        rcases List.mem_cons.1 hjm with rfl | hjm
        · omega
        · have:=(List.pairwise_cons.1 hs).1 j hjm
          omega
    have ho : ops[i]? = some ops[i]:=by simp [h1]
    have hr : i ∈ Region.ready .any ops listed:=by
      rw [mem_ready]
      refine ⟨h2,_,ho,fun e he hb=>?_⟩
      have hlt:=(depEq_spec hdep ho).2 e (by simpa using he) hb
      have:=hmin _ hlt
      have hsz : e.on < listed.size:=by
        rcases Nat.lt_or_ge e.on listed.size with h' | h'
        · exact h'
        · exfalso
          have : listed.getD i true = true:=by
            simp [Array.getElem?_eq_none (show listed.size≤i by omega)]
          rw [h2] at this; cases this
      simpa [hsz] using this
    rw [h] at hr
    cases hr
def stillS (ops : Array Oper) (mk : Nat→SM) (x y : Nat) (π1 π2 : List Nat) : Bool :=
  depEq ops (Region.before ops).toList && ordS ops (Region.before ops).toList mk x y π1 && (ops.size≤x || (ordS ops (Region.before ops).toList mk y x π2 && x != y && (mk x).isEff && (mk y).isEff && x < ops.size && y < ops.size &&
    (List.range ops.size).all fun i=>!(mk i).isEff || i == x || i == y || ((Region.before ops).toList.getD i 0).testBit x))
theorem wpAny_of_AXs {mk : Nat→SM} {x y : Nat} {π1 π2 : List Nat} {Q : Exit→Act→World→Prop} {K : Env→AS→Prop} (hok : stillS ops mk x y π1 π2 = true) :
    ∀ (fuel : Nat) (listed : Array Bool) {G : Gh} {E : Env} {s : AS} {a : Act} {w : World},listed.size = ops.size→(left ops listed).length≤fuel →
      (∀ (i : Nat) (o : Oper),ops[i]? = some o→listed.getD i true = true→∀ e ∈ o.after.toList,Region.binds .any e = true→listed.getD e.on false = true) →
      ((listed.getD x true = false∧listed.getD y true = false∧AXs P Γ N ops ((lft π1 listed).map (opAtS ops mk)) K E s∧AXs P Γ N ops ((lft π2 listed).map (opAtS ops mk)) K E s) ∨
        ∃ π u v,ordS ops (Region.before ops).toList mk u v π = true∧listed.getD u true = true∧AXs P Γ N ops ((lft π listed).map (opAtS ops mk)) K E s)→Rel Γ N G E s a w →
      (∀ G' E' s' a' w',G.le G'→Rel Γ N G' E' s' a' w'→K E' s'→Q .normal a' w')→wpAnyIn (fen rd) 0 P .any ops Q fuel listed a w:=by
  simp only [stillS,Bool.and_eq_true,Bool.or_eq_true,decide_eq_true_eq] at hok
  obtain ⟨⟨hdep,hord1⟩,hord2⟩:=hok
  simp only [ordS,Bool.and_eq_true] at hord1
  have hend : ∀ (listed : Array Bool),listed.size = ops.size→∀ {π : List Nat},Region.ready .any ops listed = []→lft π listed = []:=by
    intro listed hsz π h
    have h1:=ready_nil hdep h
    unfold lft
    rw [List.filter_eq_nil_iff]
    intro i _ hi
    have hi' : listed.getD i true = false:=by simpa using hi
    have hlt : i < ops.size:=by
      rw [← hsz]
      rcases Nat.lt_or_ge i listed.size with q | q
      · exact q
      · simp [Array.getElem?_eq_none q] at hi'
    have : i ∈ left ops listed:=mem_left.2 ⟨hlt,hi'⟩
    rw [h1] at this
    cases this
  have hfin : ∀ (listed : Array Bool) {E : Env} {s : AS},listed.size = ops.size→Region.ready .any ops listed = [] →
      ((listed.getD x true = false∧listed.getD y true = false∧AXs P Γ N ops ((lft π1 listed).map (opAtS ops mk)) K E s∧AXs P Γ N ops ((lft π2 listed).map (opAtS ops mk)) K E s) ∨
        ∃ π u v,ordS ops (Region.before ops).toList mk u v π = true∧listed.getD u true = true∧AXs P Γ N ops ((lft π listed).map (opAtS ops mk)) K E s)→K E s:=by
    rintro listed E s hsz h (⟨_,_,h1,_⟩ | ⟨π,_,_,_,_,h1⟩)
    · rwa [hend listed hsz h] at h1
    · rwa [hend listed hsz h] at h1
  intro fuel
  induction fuel with
  | zero =>
    intro listed G E s a w hsz hlen hcl h1 hr hq
    have hl : left ops listed = []:=List.eq_nil_of_length_eq_zero (by omega)
    have hready : Region.ready .any ops listed = []:=by
      cases hrd : Region.ready .any ops listed with
      | nil=>rfl
      | cons i L =>
        exfalso
        have : i ∈ Region.ready .any ops listed:=by rw [hrd]; simp
        rw [mem_ready] at this
        obtain ⟨h0,o,ho,_⟩:=this
        have : i ∈ left ops listed:=mem_left.2 ⟨(Array.getElem?_eq_some_iff.1 ho).1,h0⟩
        rw [hl] at this
        cases this
    exact ⟨hready,hq G E s a w (.refl G) hr (hfin listed hsz hready h1)⟩
  | succ fuel ih =>
    intro listed G E s a w hsz hlen hcl hI hr hq
    refine ⟨fun hready=>hq G E s a w (.refl G) hr (hfin listed hsz hready hI),fun i hi=>?_⟩
    obtain ⟨h0,o,ho,hall⟩:=mem_ready.1 hi
    have hilt : i < ops.size:=(Array.getElem?_eq_some_iff.1 ho).1
    obtain ⟨M1,M2,q1,q2,_⟩:=left_set hsz hilt h0
    have hbefore : ∀ (j : Nat) (oj : Oper),ops[j]? = some oj→(∀ e ∈ oj.after.toList,Region.binds .any e = true→listed.getD e.on false = true)→∀ l,((Region.before ops).toList.getD j 0).testBit l = true→listed.getD l false = true:=by
      intro j
      induction j using Nat.strongRecOn with
      | _ j ihj =>
        intro oj hoj hj l hl
        obtain ⟨d1,d2⟩:=depEq_spec hdep hoj
        obtain ⟨e,he,hb,h1⟩:=d1 l hl
        have hel:=hj e he hb
        rcases h1 with rfl | h1
        · exact hel
        · have hlt:=d2 e he hb
          have hon : e.on < ops.size:=by
            have:=(Array.getElem?_eq_some_iff.1 hoj).1
            omega
          have heon : ops[e.on]? = some ops[e.on]:=by simp [hon]
          refine ihj e.on hlt _ heon (hcl e.on _ heon ?_) l h1
          have : e.on < listed.size:=by omega
          simpa [this] using hel
    have hnb : ∀ z,listed.getD z true = false→((Region.before ops).toList.getD i 0).testBit z = true→False:=by
      intro z hz hb
      have h3:=hbefore i o ho (fun e he hb=>hall e (by simpa using he) hb) z hb
      rcases Nat.lt_or_ge z listed.size with q | q
      · simp [q] at h3 hz
        rw [hz] at h3; cases h3
      · simp [Array.getElem?_eq_none q] at h3
    have hset : ∀ z,(listed.setIfInBounds i true).getD z true = if z = i then true else listed.getD z true:=by
      intro z
      simp only [Array.getD_eq_getD_getElem?]
      by_cases e : z = i
      · subst e; rw [if_pos rfl]; simp [hsz,hilt]
      · rw [if_neg e,Array.getElem?_setIfInBounds_ne (by omega)]
    have hgo : ∀ {G' : Gh} {E' : Env} {s' : AS} {a' : Act} {w' : World},G.le G' →
        (((listed.setIfInBounds i true).getD x true = false∧(listed.setIfInBounds i true).getD y true = false∧AXs P Γ N ops ((lft π1 (listed.setIfInBounds i true)).map (opAtS ops mk)) K E' s'∧AXs P Γ N ops ((lft π2 (listed.setIfInBounds i true)).map (opAtS ops mk)) K E' s') ∨
          ∃ π u v,ordS ops (Region.before ops).toList mk u v π = true∧(listed.setIfInBounds i true).getD u true = true∧AXs P Γ N ops ((lft π (listed.setIfInBounds i true)).map (opAtS ops mk)) K E' s')→Rel Γ N G' E' s' a' w'→wpAnyIn (fen rd) 0 P .any ops Q fuel (listed.setIfInBounds i true) a' w':=by
      intro G' E' s' a' w' hle g1 hr'
      refine ih (listed.setIfInBounds i true) (by simpa using hsz) ?_ ?_ g1 hr' (fun G'' E'' s'' a'' w'' k1 k2 k3=>hq G'' E'' s'' a'' w'' (hle.trans k1) k2 k3)
      · rw [q2]
        rw [q1] at hlen
        simp at hlen ⊢
        omega
      · intro j oj hoj hj e he hb
        by_cases hji : j = i
        · subst hji
          rw [ho] at hoj; cases hoj
          exact getD_set_true (hall e (by simpa using he) hb)
        · rw [getD_set_ne true (Ne.symm hji)] at hj
          exact getD_set_true (hcl j oj hoj hj e he hb)
    have hop : opAtS ops mk i = (o,mk i):=by simp [opAtS,ho]
    -- a list, with the place i taken out of it
    have hone : ∀ {π : List Nat} {u v : Nat},ordS ops (Region.before ops).toList mk u v π = true→(v≠i∨listed.getD u true = true)→∃ L1 L2,lft π listed = L1 ++ i :: L2∧lft π (listed.setIfInBounds i true) = L1 ++ L2 ∧
        ∀ z ∈ L1.map (opAtS ops mk),Apart ops z.1 o∧z.2.free (mk i) = true:=by
      intro π u v hπ hv
      simp only [ordS,Bool.and_eq_true,List.all_eq_true] at hπ
      have him : i ∈ π:=by
        have:=hπ.1.2 i (by simpa using hilt)
        simpa using this
      obtain ⟨L1,L2,w1,w2,w3⟩:=lft_set (R:=okS ops (Region.before ops).toList mk u v) (by omega) h0 hπ.1.1 him
      refine ⟨L1,L2,w1,w2,fun z hz=>?_⟩
      obtain ⟨j,hj,rfl⟩:=List.mem_map.1 hz
      obtain ⟨j1,j2,j3⟩:=w3 j hj
      rcases okS_spec ho j1 with k | k | ⟨k1,k2⟩
      · exact (hnb j j3 k).elim
      · exact k
      · rcases hv with hv | hv
        · exact absurd k2.symm hv
        · rw [k1,hv] at j3; cases j3
    have hord1' : ordS ops (Region.before ops).toList mk x y π1 = true:=by simp only [ordS,Bool.and_eq_true]; exact hord1
    -- the place i taken first, in one list
    have hstep : ∀ {π : List Nat} {u v : Nat},ordS ops (Region.before ops).toList mk u v π = true→(v≠i∨listed.getD u true = true)→AXs P Γ N ops ((lft π listed).map (opAtS ops mk)) K E s →
        AX P Γ N ops [o] (AXs P Γ N ops ((lft π (listed.setIfInBounds i true)).map (opAtS ops mk)) K) E s ∧
        ((mk i).isEff = false→(∀ d,o.dst = some d→d < N)∧∃ v,SV P Γ ops (mk i) o E s v∧AXs P Γ N ops ((lft π (listed.setIfInBounds i true)).map (opAtS ops mk)) K (updO E o.dst v) s):=by
      intro π u v hπ hv h
      obtain ⟨L1,L2,w1,w2,w3⟩:=hone hπ hv
      rw [w1,List.map_append,List.map_cons,hop] at h
      rw [w2,List.map_append]
      cases hf : (mk i).isEff with
      | false =>
        obtain ⟨hd,v,hv⟩:=sv_later hf _ w3 h hr
        have h1:=AXs_first_val hf _ w3 hv h
        refine ⟨AXs_AX (m:=mk i) ?_,fun _=>⟨hd,v,hv,h1⟩⟩
        simp only [AXs,hf,Bool.false_eq_true,if_false]
        exact ⟨hd,v,hv,h1⟩
      | true =>
        have hme : mk i = .eff:=by
          cases hm : mk i with
          | eff=>rfl
          | val=>rw [hm] at hf; cases hf
          | giv u=>rw [hm] at hf; cases hf
        rw [hme] at h w3
        exact ⟨AXs_first_eff _ w3 h,fun e=>by cases e⟩
    rcases hI with ⟨hx,hy,r1,r2⟩ | ⟨π,u,v,hπ,hu,r1⟩
    · have hxs : ¬ ops.size≤x:=by
        intro q
        rw [Array.getD_eq_getD_getElem?,Array.getElem?_eq_none (by omega)] at hx
        cases hx
      rcases hord2 with q | q
      · exact absurd q hxs
      simp only [Bool.and_eq_true,bne_iff_ne,List.all_eq_true,decide_eq_true_eq] at q
      obtain ⟨⟨⟨⟨⟨⟨o2,hxy⟩,ex⟩,ey⟩,_⟩,_⟩,hother⟩:=q
      by_cases ix : i = x
      · subst ix
        exact AX_step (L:=[]) ho (hstep hord1' (.inl (Ne.symm hxy)) r1).1 hr fun G' E' s' a' w' k1 k2 k3=>hgo k1 (.inr ⟨π1,i,y,hord1',by rw [hset,if_pos rfl],k3⟩) k2
      by_cases iy : i = y
      · subst iy
        exact AX_step (L:=[]) ho (hstep o2 (.inl hxy) r2).1 hr fun G' E' s' a' w' k1 k2 k3=>hgo k1 (.inr ⟨π2,i,x,o2,by rw [hset,if_pos rfl],k3⟩) k2
      cases hf : (mk i).isEff with
      | true =>
        have:=hother i (by simpa using hilt)
        simp only [hf,Bool.not_true,Bool.false_or,Bool.or_eq_true,beq_iff_eq] at this
        rcases this with (k | k) | k
        · exact absurd k ix
        · exact absurd k iy
        · exact (hnb x hx k).elim
      | false =>
        obtain ⟨hd,v1,hv1,g1⟩:=(hstep hord1' (.inl (Ne.symm iy)) r1).2 hf
        obtain ⟨_,v2,hv2,g2⟩:=(hstep o2 (.inl (Ne.symm ix)) r2).2 hf
        obtain rfl:=sv_unique hv1 hv2
        have hX : AXs P Γ N ops [(o,mk i)] (fun E' s'=>AXs P Γ N ops ((lft π1 (listed.setIfInBounds i true)).map (opAtS ops mk)) K E' s'∧AXs P Γ N ops ((lft π2 (listed.setIfInBounds i true)).map (opAtS ops mk)) K E' s') E s:=by
          simp only [AXs,hf,Bool.false_eq_true,if_false]
          exact ⟨hd,v1,hv1,g1,g2⟩
        exact AX_step (L:=[]) ho (AXs_AX hX) hr fun G' E' s' a' w' k1 k2 k3=>hgo k1 (.inl ⟨by rw [hset,if_neg (Ne.symm ix)]; exact hx,by rw [hset,if_neg (Ne.symm iy)]; exact hy,k3.1,k3.2⟩) k2
    · exact AX_step (L:=[]) ho (hstep hπ (.inr hu) r1).1 hr fun G' E' s' a' w' k1 k2 k3=>hgo k1 (.inr ⟨π,u,v,hπ,by rw [hset]; split; rfl; exact hu,k3⟩) k2
theorem awp_region_stillS {E : Env} {Q : Exit→Env→AS→Prop} (hm : P.follows .mixedOrders = true) {mk : Nat→SM} {x y : Nat} {π1 π2 : List Nat} {id : Nat} (hok : stillS ops mk x y π1 π2 = true)
    (h1 : AXs P Γ N ops (π1.map (opAtS ops mk)) (fun E' s'=>Q .normal E' s') E s) (h2 : x < ops.size→AXs P Γ N ops (π2.map (opAtS ops mk)) (fun E' s'=>Q .normal E' s') E s) : AWp P Γ N (.region id ops true) Q E s:=by
  intro G a w hr
  refine wpIn_region_any hm ?_
  have hr' : Rel Γ N G E s a w.drew:=⟨hr.st.drew,hr.size,hr.tmps,hr.defers⟩
  have hget : ∀ i,(Array.replicate ops.size false).getD i true = decide (ops.size≤i):=by
    intro i
    rw [Array.getD_eq_getD_getElem?,Array.getElem?_replicate]
    by_cases h : i < ops.size
    · rw [if_pos h,decide_eq_false (by omega)]; rfl
    · rw [if_neg h,decide_eq_true (by omega)]; rfl
  have hlen : (left ops (Array.replicate ops.size false)).length≤ops.size:=by
    unfold left
    exact Nat.le_trans (List.length_filter_le _ _) (by simp)
  have hok0:=hok
  simp only [stillS,Bool.and_eq_true,Bool.or_eq_true,decide_eq_true_eq,ordS,List.all_eq_true] at hok
  obtain ⟨⟨_,hp1⟩,hord2⟩:=hok
  have key : ∀ {π : List Nat},(∀ i ∈ π,i < ops.size)→AXs P Γ N ops (π.map (opAtS ops mk)) (fun E' s'=>Q .normal E' s') E s →
      AXs P Γ N ops ((lft π (Array.replicate ops.size false)).map (opAtS ops mk)) (fun E' s'=>Q .normal E' s'∧∀ i,i ∉ dsts ops.toList→E' i = E i) E s:=by
    intro π hlt h
    have e : lft π (Array.replicate ops.size false) = π:=by
      unfold lft
      rw [List.filter_eq_self]
      intro i hi
      have:=hlt i hi
      rw [hget,decide_eq_false (by omega)]
      rfl
    rw [e]
    refine AXs_mono _ (fun E' s' k=>⟨k.1,fun i hi=>k.2 i fun hm=>hi ?_⟩) (AXs_frame _ h)
    simp only [dsts,List.mem_filterMap,List.mem_map] at hm ⊢
    obtain ⟨o,⟨_,⟨j,hj,rfl⟩,rfl⟩,hd⟩:=hm
    have hjl:=hlt j hj
    refine ⟨_,?_,hd⟩
    simp [opAtS,hjl]
  refine wpAny_of_AXs (K:=fun E' s'=>Q .normal E' s'∧∀ i,i ∉ dsts ops.toList→E' i = E i) hok0 ops.size (Array.replicate ops.size false) (by simp) hlen ?_ ?_ hr' ?_
  · intro i o ho hl
    have : i < ops.size:=(Array.getElem?_eq_some_iff.1 ho).1
    simp [this] at hl
  · by_cases hx : ops.size≤x
    · exact .inr ⟨π1,x,y,by simp only [ordS,Bool.and_eq_true,List.all_eq_true,decide_eq_true_eq]; exact hp1,by rw [hget,decide_eq_true hx],key hp1.2 h1⟩
    · rcases hord2 with q | q
      · exact absurd q hx
      obtain ⟨⟨⟨⟨⟨⟨hp2,_⟩,_⟩,_⟩,_⟩,hy⟩,_⟩:=q
      exact .inl ⟨by rw [hget,decide_eq_false hx],by rw [hget,decide_eq_false (by omega)],key hp1.2 h1,key hp2.2 (h2 (by omega))⟩
  · intro G' E' s' a' w' k1 k2 k3
    exact ⟨G',E',s',k1,k2,k3.1,fun i hi=>k3.2 i hi⟩
def mkS (fl : List Nat) (gv : List (Nat × AV)) (i : Nat) : SM:=if fl.contains i = true then .eff else match glook gv i with | some v=>.giv v | none=>.val
def AGivS (P : Program) (Γ : Nat→List AV) (N : Nat) (ops : Array Oper) (o : Oper) (s : AS) (v : AV) (C : Env→Prop) (E : Env) : Prop:=(∀ d,o.dst = some d→d < N)∧GivS P Γ ops o E s v∧C (updO E o.dst v)
def AGivSK (P : Program) (Γ : Nat→List AV) (k : FuncId) (xs : List AV) (s : AS) (v : AV) (c : Prop) : Prop:=ACalls P Γ k xs s (fun r s'=>r = v∧s' = s)∧c
theorem agivs {k : FuncId} {xs : List AV} {v : AV} {c : Prop} (h : ACalls P Γ k xs s (fun r s'=>r = v∧s' = s)) (hc : c) : AGivSK P Γ k xs s v c:=⟨h,hc⟩
theorem AGivS_call {dst : Option Tmp} {k : FuncId} {args : Array Operand} {aT : Array TypeId} {ty : TypeId} {pos : String} {after : Array Edge} {gd : Option (Nat × Bool)} {v : AV} {C : Env→Prop} {E : Env} :
    AGivS P Γ N ops { dst:=dst,op:=.call { callee:=.value (.func k),args:=args,argTypes:=aT },type:=ty,pos:=pos,after:=after,guard:=gd } s v C E =
      ((∀ d,dst = some d→d < N)∧gokB ops { dst:=dst,op:=.call { callee:=.value (.func k),args:=args,argTypes:=aT },type:=ty,pos:=pos,after:=after,guard:=gd } E∧callable P k = true∧AGivSK P Γ k (args.toList.map (aeval Γ E)) s v (C (updO E dst v))):=by
  apply propext
  simp only [AGivS,GivS,AGivSK,astep,aval,aeff,aeval]
  constructor
  · rintro ⟨h1,⟨h2,h3⟩,h4⟩
    exact ⟨h1,h2,h3.2.2.1,h3.2.2.2,h4⟩
  · rintro ⟨h1,h2,h3,h4,h5⟩
    exact ⟨h1,⟨h2,rfl,rfl,h3,h4⟩,h5⟩
theorem AGivS_load {dst : Option Tmp} {T : TypeId} {x : Operand} {ty : TypeId} {pos : String} {after : Array Edge} {gd : Option (Nat × Bool)} {v : AV} {C : Env→Prop} {E : Env} :
    AGivS P Γ N ops { dst:=dst,op:=.load T x,type:=ty,pos:=pos,after:=after,guard:=gd } s v C E =
      ((∀ d,dst = some d→d < N)∧gokB ops { dst:=dst,op:=.load T x,type:=ty,pos:=pos,after:=after,guard:=gd } E∧astep P Γ (aeval Γ E) s (fun r s'=>r = v∧s' = s) (.load T x)∧C (updO E dst v)):=by
  apply propext
  simp only [AGivS,GivS,and_assoc]
def AXw0 (P : Program) (Γ : Nat→List AV) (N : Nat) (L : List Oper) (fl : List Nat) (gv : List (Nat × AV)) : List Nat→(Env→AS→Prop)→Env→AS→Prop
  | [],K,E,s=>K E s
  | i :: π,K,E,s =>
    if fl.contains i = true then AX P Γ N L.toArray [L.getD i default] (AXw0 P Γ N L fl gv π K) E s
    else match glook gv i with
      | some v=>AGivS P Γ N L.toArray (L.getD i default) s v (fun E=>AXw0 P Γ N L fl gv π K E s) E
      | none=>((∀ d,(L.getD i default).dst = some d→d < N)∧match pval P Γ L.toArray (L.getD i default) E with | some v=>AXw0 P Γ N L fl gv π K (updO E (L.getD i default).dst v) s | none=>False)
theorem axw_is : ∃ f : Program→(Nat→List AV)→Nat→List Oper→List Nat→List (Nat × AV)→List Nat→(Env→AS→Prop)→Env→AS→Prop,f = AXw0:=⟨_,rfl⟩
noncomputable def AXw : Program→(Nat→List AV)→Nat→List Oper→List Nat→List (Nat × AV)→List Nat→(Env→AS→Prop)→Env→AS→Prop:=Classical.choose axw_is
theorem axw : AXw = AXw0:=Classical.choose_spec axw_is
theorem AXw_nil {L : List Oper} {fl : List Nat} {gv : List (Nat × AV)} {K : Env→AS→Prop} {E : Env} : AXw P Γ N L fl gv [] K E s = K E s:=by rw [axw]; rfl
theorem AXw_cons {L : List Oper} {fl : List Nat} {gv : List (Nat × AV)} {i : Nat} {π : List Nat} {K : Env→AS→Prop} {E : Env} : AXw P Γ N L fl gv (i :: π) K E s =
    if fl.contains i = true then AY P Γ N L.toArray [L.getD i default] (AXw P Γ N L fl gv π K) E s
    else match glook gv i with
      | some v=>AGivS P Γ N L.toArray (L.getD i default) s v (fun E=>AXw P Γ N L fl gv π K E s) E
      | none=>((∀ d,(L.getD i default).dst = some d→d < N)∧match pval P Γ L.toArray (L.getD i default) E with | some v=>AXw P Γ N L fl gv π K (updO E (L.getD i default).dst v) s | none=>False):=by rw [axw,ay]; rfl
theorem AXw_s {L : List Oper} {fl : List Nat} {gv : List (Nat × AV)} {K : Env→AS→Prop} : ∀ (π : List Nat) {E : Env} {s : AS},AXw0 P Γ N L fl gv π K E s→AXs P Γ N L.toArray (π.map (opAtS L.toArray (mkS fl gv))) K E s
  | [],E,s,h=>h
  | i :: π,E,s,h=>by
    have ho : (L.toArray[i]?).getD default = L.getD i default:=by simp [List.getD]
    simp only [AXw0] at h
    simp only [List.map_cons,AXs,opAtS,ho,mkS]
    cases hf : fl.contains i with
    | true =>
      rw [hf] at h
      simp only [if_true,SM.isEff] at h ⊢
      exact AX_mono _ (fun E' s' hE=>AXw_s π hE) h
    | false =>
      rw [hf] at h
      simp only [Bool.false_eq_true,if_false] at h ⊢
      cases hg : glook gv i with
      | some v =>
        rw [hg] at h
        simp only [SM.isEff,Bool.false_eq_true,if_false]
        obtain ⟨h1,h2,h3⟩:=h
        exact ⟨h1,v,⟨rfl,h2⟩,AXw_s π h3⟩
      | none =>
        rw [hg] at h
        simp only [SM.isEff,Bool.false_eq_true,if_false]
        refine ⟨h.1,?_⟩
        have h:=h.2
        split at h
        · rename_i v hv
          exact ⟨v,hv,AXw_s π h⟩
        · exact h.elim
theorem awp_drs_seq {E : Env} {Q : Exit→Env→AS→Prop} (hm : P.follows .mixedOrders = true) (fl : List Nat) (gv : List (Nat × AV)) (π : List Nat) {id : Nat} {L : List Oper} {y : Code} (hok : stillS L.toArray (mkS fl gv) L.length 0 π [] = true)
    (h : ∀ K : Env→AS→Prop,(∀ E s,AWp P Γ N y Q E s→K E s)→AXw P Γ N L fl gv π K E s) : AWp P Γ N (.seq (.region id L.toArray true) y) Q E s:=by
  refine awp_seq (awp_region_stillS hm hok (AXw_s π ?_) (fun q=>absurd q (by simp)))
  have:=h _ (fun _ _ h=>h)
  rwa [axw] at this
theorem awp_drs2_seq {E : Env} {Q : Exit→Env→AS→Prop} (hm : P.follows .mixedOrders = true) (fl : List Nat) (gv : List (Nat × AV)) (u v : Nat) (π π' : List Nat) {id : Nat} {L : List Oper} {y : Code} (hok : stillS L.toArray (mkS fl gv) u v π π' = true)
    (h : ∀ K : Env→AS→Prop,(∀ E s,AWp P Γ N y Q E s→K E s)→AXw P Γ N L fl gv π K E s∧AXw P Γ N L fl gv π' K E s) : AWp P Γ N (.seq (.region id L.toArray true) y) Q E s:=by
  have:=h _ (fun _ _ h=>h)
  rw [axw] at this
  exact awp_seq (awp_region_stillS hm hok (AXw_s π this.1) (fun _=>AXw_s π' this.2))
end Go.AM
