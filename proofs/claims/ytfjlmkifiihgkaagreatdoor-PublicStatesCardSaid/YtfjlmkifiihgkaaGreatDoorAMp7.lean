/- An abstract machine for the model: abstract values, their relation to worlds, and the rules of its walk, each proved sound over the model; no condition. -/
import Derived.Test.YtfjlmkifiihgkaaGreatDoorAMp6
import Derived.Shelf.Spec.SlicesInsertGrow
set_option linter.unusedSimpArgs false
set_option linter.unusedVariables false
set_option autoImplicit false
namespace Go.AM
open Go Go.RowKit
variable {P : Program} {Γ : Nat→List AV} {G : Gh} {s : AS} {w : World} {N : Nat}
theorem cut_appendCap_lt (need old : Nat) (e : TypeId) (x : Nat) (h : need < 2 ^ 63) : (Question.appendCap need old e).cut x < 2 ^ 63:=by
  have hlt:=Nat.mod_lt x (show 0 < 2 ^ 63 - need by omega)
  simp only [Question.cut]
  omega
theorem run_append_new63 {m : Nat} {u : Value} (hsrc : ∀ w',(Builtin.lenOf u).run P w' = .ok m w') {T xT e : TypeId} (hT : P.underlying T = some (.slice e)) (hx : srcOk P (some xT) = true)
    {z : List AV} (he : ElemOk P e z)
    {base : Option Addr} {n cap : Nat} {olds news : List Value} (hold : ∀ w',(∀ b j,w'.cell? ⟨b,j,none⟩ = w.cell? ⟨b,j,none⟩)→(Builtin.firstCells (P.cellsOf e) n (.slice base n cap)).run P w' = .ok olds.toArray w')
    (hnew : ∀ w',(∀ b j,w'.cell? ⟨b,j,none⟩ = w.cell? ⟨b,j,none⟩)→(Builtin.firstCells (P.cellsOf e) m u).run P w' = .ok news.toArray w')
    (hg : cap < n + m) (hfit : (n + m) * P.bytesOf e≤2 ^ 46) (h63 : n + m≤2 ^ 46) (ty : TypeId) :
    ∃ (cap' : Nat) (rest : List Value),n + m≤cap'∧cap' < 2 ^ 63∧rest.length = (cap' - (n + m)) * P.cellsOf e ∧
      (Builtin.append_ #[T,xT] ty #[.slice base n cap,u]).run P w = .ok (.slice (some ⟨w.heap.size,0,none⟩) (n + m) cap') (w.drew.alloc (.cells ((olds ++ news) ++ rest).toArray e)):=by
  obtain ⟨hz,hsz,hzl⟩:=he
  obtain ⟨zv,hz1,hz2⟩:=zcells_some hz
  obtain ⟨i,hi⟩:=info_of_cells hsz
  have hb : P.bytesOf e = i.bytes:=by simp [Program.bytesOf,hi]
  have hti : ∀ w',(typeInfo e).run P w' = .ok i w':=fun w'=>by simp [typeInfo,hi]
  have hnle : ¬ (n + m≤cap):=by omega
  have hnot63 : ¬ (9223372036854775807 < (n : Int) + (m : Int)):=by omega
  have hslice:=nextslicecap_le (need:=n + m) (old:=cap) hg
  have hnot48 : ¬ (2 ^ 48 < Builtin.nextslicecap (n + m) cap * i.bytes):=by
    rw [hb] at hfit
    have h2 : Builtin.nextslicecap (n + m) cap * i.bytes≤2 * (n + m) * i.bytes:=Nat.mul_le_mul_right _ hslice
    rw [Nat.mul_assoc] at h2
    omega
  have hzl : zv.cells.size = P.cellsOf e:=by
    rw [hz2] at hzl
    simpa using hzl
  have ho1:=hold w.drew (fun b j=>rfl)
  have hn1:=hnew w.drew (fun b j=>rfl)
  refine ⟨_,(Builtin.zeroCells zv.cells ((Question.appendCap (n + m) cap e).cut (w.tape w.drawn (.appendCap (n + m) cap e)) - (n + m))).toList,cut_appendCap (n + m) cap e (w.tape w.drawn (.appendCap (n + m) cap e)),cut_appendCap_lt (n + m) cap e (w.tape w.drawn (.appendCap (n + m) cap e)) (by omega),?_,?_⟩
  · simp [Builtin.zeroCells,hzl]
  · have hf : (Question.appendCap (n + m) cap e).forced = false:=rfl
    rcases srcOk_some hx with ⟨e',hx⟩ | hx
    all_goals
      simp [Builtin.append_,run_underlying hT,run_sizeOf' hsz,run_underlying hx,hsrc,hnle,hti,hnot63,hnot48,hf,ho1,hn1,hz1,newRow]
      congr 2
      apply Array.ext'
      simp [List.append_assoc]
def OBuf (sz : Nat) (s : AS) (x : AV) (n : Nat) (cs : List AV) : Prop :=
  (n = 0∧cs = []∧(x = nilS∨x = .sl sz 0 [] .full∨x = .sl sz 0 [] .new)) ∨
    ∃ o cap rest,x = .osl o 0 sz n cap∧s.objs o = some (cs ++ rest)∧cs.length = n * sz∧rest.length = (cap - n) * sz∧n≤cap∧cap < 2 ^ 63
theorem asetAll_mid : ∀ (ds cs rest : List AV),ds.length≤rest.length→asetAll (cs ++ rest) cs.length ds = cs ++ ds ++ rest.drop ds.length
  | [],cs,rest,_=>by simp [asetAll]
  | d :: ds,cs,rest,h=>by
    cases rest with
    | nil=>simp at h
    | cons r rest =>
      simp only [asetAll]
      have e : (cs ++ r :: rest).set cs.length d = (cs ++ [d]) ++ rest:=by simp
      have:=asetAll_mid ds (cs ++ [d]) rest (by simpa using h)
      rw [List.length_append,List.length_singleton] at this
      rw [e,this]
      simp
theorem append_own_sound {x y : AV} {u v : Value} {m n : Nat} {cs ds : List AV} {T xT e : TypeId} {z : List AV} (hT : P.underlying T = some (.slice e)) (hx : srcOk P (some xT) = true) (he : ElemOk P e z)
    (hsrc : asrc (P.cellsOf e) s y = some (m,ds)) (hm : m≠0) (h1 : (n + m) * P.bytesOf e≤2 ^ 46) (h2 : n + m≤2 ^ 46) (hone : ds.all AV.one = true) (hb : OBuf (P.cellsOf e) s x n cs)
    (hxr : VRel G x u) (hyr : VRel G y v) (hs : SRel Γ G s w) (ty : TypeId) :
    ∃ G' r w' o cap rest,(Builtin.append_ #[T,xT] ty #[u,v]).run P w = .ok r w'∧G.le G'∧n + m≤cap∧cap < 2 ^ 63∧rest.length = (cap - (n + m)) * P.cellsOf e∧(s.objs o = none∨∃ cap0,x = .osl o 0 (P.cellsOf e) n cap0) ∧
      SRel Γ G' (s.set o (cs ++ ds ++ rest)) w'∧VRel G' (.osl o 0 (P.cellsOf e) (n + m) cap) r:=by
  obtain ⟨us,hv,hlen,hlenOf,hfirst⟩:=asrc_sound (P:=P) hsrc hyr hs
  have hdl:=hv.length
  have grow : ∀ (base : Option Addr) (cap : Nat) (vs : List Value),VRels G cs vs→cap < n + m →
      (∀ w',(∀ b j,w'.cell? ⟨b,j,none⟩ = w.cell? ⟨b,j,none⟩)→(Builtin.firstCells (P.cellsOf e) n (.slice base n cap)).run P w' = .ok vs.toArray w') →
      ∃ G' r w' o cap' rest,(Builtin.append_ #[T,xT] ty #[.slice base n cap,v]).run P w = .ok r w'∧G.le G'∧n + m≤cap'∧cap' < 2 ^ 63∧rest.length = (cap' - (n + m)) * P.cellsOf e∧(s.objs o = none∨∃ cap0,x = .osl o 0 (P.cellsOf e) n cap0) ∧
        SRel Γ G' (s.set o (cs ++ ds ++ rest)) w'∧VRel G' (.osl o 0 (P.cellsOf e) (n + m) cap') r:=by
    intro base cap vs hvs hlt hold
    obtain ⟨cap',rest,hc1,hc3,hc2,hrun⟩:=run_append_new63 (P:=P) (w:=w) hlenOf hT hx he (base:=base) (n:=n) (cap:=cap) (olds:=vs) (news:=us) hold hfirst hlt h1 h2 ty
    obtain ⟨o,k1,k2,k3,k4⟩:=hs.drew.newObj (cs:=(cs ++ ds) ++ rest.map .v) (vs:=(vs ++ us) ++ rest) ((hvs.append hv).append (VRels.vals rest)) e
    refine ⟨_,_,_,o,cap',rest.map .v,hrun,k2,hc1,hc3,by simpa using hc2,.inl k1,k3,?_⟩
    simp only [VRel]
    exact ⟨_,k4,rfl,hc1⟩
  rcases hb with ⟨rfl,rfl,rfl | rfl | rfl⟩ | ⟨o,cap,rest,rfl,ho,hcl,hrl,_,h63⟩
  · simp only [nilS,VRel] at hxr
    subst hxr
    exact grow none 0 [] (by simp [VRels]) (by omega) (fun w' _=>run_firstCells_none w' _ _ _ _)
  · simp only [VRel] at hxr
    rcases hxr with ⟨b,off,cap,vs,rfl,hl,_,hv0,hro,hsp⟩ | ⟨_,_,a,cap,rfl,hmere⟩ | ⟨_,_,h,_⟩
    · simp only [SpRel] at hsp
      subst hsp
      exact grow _ 0 [] (by simp [VRels]) (by omega) (fun w' _=>run_firstCells_some w' _ _ _ _ _ [] (by simp) (by simp))
    · rcases hmere with h | h | ⟨_,rfl⟩
      · cases h
      · cases h
      · exact grow _ 0 [] (by simp [VRels]) (by omega) (fun w' _=>run_firstCells_some w' _ _ _ _ _ [] (by simp) (by simp))
    · cases h
  · simp only [VRel] at hxr
    rcases hxr with ⟨b,off,cap,vs,rfl,hl,_,hv0,hro,hsp⟩ | ⟨_,_,a,cap,rfl,hmere⟩ | ⟨_,_,h,_⟩
    · simp only [SpRel] at hsp
      obtain ⟨rfl,_⟩:=hsp
      exact grow _ 0 [] (by simp [VRels]) (by omega) (fun w' _=>run_firstCells_some w' _ _ _ _ _ [] (by simp) (by simp))
    · rcases hmere with h | h | ⟨h,_⟩ <;> cases h
    · cases h
  · have hxr':=hxr
    simp only [VRel] at hxr
    obtain ⟨b,hb1,rfl,hnc⟩:=hxr
    obtain ⟨b',vs,q1,q2,q3,q4⟩:=hs.objs o _ ho
    rw [hb1] at q1
    cases q1
    have hvl:=q2.length
    have hvs:=q2.take cs.length
    rw [List.take_left] at hvs
    have hl2:=hvs.length
    rcases Nat.lt_or_ge cap (n + m) with hlt | hge
    · refine grow _ cap (vs.take cs.length) hvs hlt (fun w' hw'=>?_)
      refine run_firstCells_some w' _ _ _ _ _ _ (by omega) (fun j x hj=>?_)
      rw [add_spot,hw']
      rw [List.getElem?_take] at hj
      split at hj
      · rw [Nat.zero_add]; exact (q4 j x hj).1
      · cases hj
    · have hsum : m * P.cellsOf e≤(cap - n) * P.cellsOf e:=Nat.mul_le_mul_right _ (by omega)
      have hfits : cs.length + ds.length≤(cs ++ rest).length:=by rw [List.length_append,hrl,hdl,hlen]; omega
      obtain ⟨f1,f2,f3⟩:=setCells_obj hs ho hb1 (off:=cs.length) hfits hv
      rw [asetAll_mid ds cs rest (by rw [hdl,hlen,hrl]; exact hsum)] at f3
      rw [hcl] at f1 f2 f3
      have hrun:=run_append_in (P:=P) (w:=w) (n:=n) (m:=m) (cap:=cap) (off:=0) (b:=b) hlenOf hT hx he.2.1 (hfirst w (fun _ _=>rfl)) (by rw [Nat.zero_add]; exact f1) (by rw [Nat.zero_add]; exact f2) (one_of_all hv hone) hge ty
      rw [Nat.zero_add] at hrun
      refine ⟨G,_,_,o,cap,_,hrun,.refl G,hge,h63,?_,.inr ⟨cap,rfl⟩,f3,?_⟩
      · rw [List.length_drop,hrl,hdl,hlen,← Nat.sub_mul,Nat.sub_sub]
      · simp only [VRel]
        exact ⟨b,hb1,rfl,hge⟩
theorem append_own_res {ρ : Operand→AV} {ρ' : Operand→Value} {o : Oper} {x y : Operand} {m n : Nat} {cs ds : List AV} {T xT e : TypeId} {z : List AV} (ho : o.op = .call { callee:=.builtin .append,args:=#[x,y],argTypes:=#[T,xT] })
    (hT : P.underlying T = some (.slice e)) (hx : srcOk P (some xT) = true) (hz : zcells P e = some z) (hc : P.cellsOf e≠0) (hzl : z.length = P.cellsOf e)
    (hsrc : asrc (P.cellsOf e) s (ρ y) = some (m,ds)) (hm : m≠0) (h1 : (n + m) * P.bytesOf e≤2 ^ 46) (h2 : n + m≤2 ^ 46) (hone : ds.all AV.one = true) (hb : OBuf (P.cellsOf e) s (ρ x) n cs)
    (hρ : ∀ x,VRel G (ρ x) (ρ' x)) (hs : SRel Γ G s w) :
    OpRes P Γ G (fun r s'=>∃ ob cap rest,r = .osl ob 0 (P.cellsOf e) (n + m) cap∧n + m≤cap∧cap < 2 ^ 63∧rest.length = (cap - (n + m)) * P.cellsOf e∧(s.objs ob = none∨∃ cap0,ρ x = .osl ob 0 (P.cellsOf e) n cap0)∧s' = s.set ob (cs ++ ds ++ rest)) ((execOp ρ' o).run P w):=by
  obtain ⟨G',r,w',ob,cap,rest,q1,q2,q3,q3',q4,q5,q6,q7⟩:=append_own_sound hT hx ⟨hz,hc,hzl⟩ hsrc hm h1 h2 hone hb (hρ x) (hρ y) hs o.type
  rw [run_execOp_builtin ho]
  simp only [builtin]
  exact opres_value ⟨G',r,w',_,_,by simpa using q1,q2,q6,q7,ob,cap,rest,rfl,q3,q3',q4,q5,rfl⟩
end Go.AM
namespace Go.AM
open Go Go.RowKit
variable {P : Program} {Γ : Nat→List AV} {G : Gh} {s : AS} {w : World} {N : Nat}
theorem Views.append {a b c d : List AV} (h : Views Γ s a c) (k : Views Γ s b d) : Views Γ s (a ++ b) (c ++ d):=by
  intro G w us hs hv
  have hl:=hv.length
  have h1:=hv.take a.length
  have h2:=hv.drop a.length
  rw [List.take_left] at h1
  rw [List.drop_left] at h2
  have:=VRels.append (h G w _ hs h1) (k G w _ hs h2)
  rwa [List.take_append_drop] at this
theorem View.osl2 {o sz n cap : Nat} {cs rest ds : List AV} (ho : s.objs o = some (cs ++ rest)) (hl : cs.length = n * sz) (h : Views Γ s cs ds) : View Γ s (.osl o 0 sz n cap) (.sl sz n ds .any):=by
  intro G w u hs hv
  simp only [VRel] at hv ⊢
  obtain ⟨b,h1,h2,h3⟩:=hv
  obtain ⟨b',vs,k1,k2,k3,k4⟩:=hs.objs o _ ho
  rw [h1] at k1
  cases k1
  have k5:=k2.take cs.length
  rw [List.take_left] at k5
  have h7:=h G w _ hs k5
  refine .inl ⟨b,0,cap,_,h2,by rw [h7.length,← k5.length,hl],h3,h7,fun j u hj=>?_,trivial⟩
  rw [Nat.zero_add]
  rw [List.getElem?_take] at hj
  split at hj
  · exact (k4 j u hj).1
  · cases hj
theorem View.nilS : View Γ s nilS (.sl 1 0 [] .any):=fun G w u _ hv=>AV.weak_nil _ _ (by simpa [Go.AM.nilS,VRel] using hv)
theorem View.empty {sz : Nat} {sp : Sp} (h : sp = .full∨sp = .new) : View Γ s (.sl sz 0 [] sp) (.sl sz 0 [] .any):=by
  intro G w u hs hv
  simp only [VRel] at hv ⊢
  rcases hv with ⟨b,off,cap,vs,h1,h2,h3,h4,h5,h6⟩ | ⟨_,_,a,cap,h1,_⟩ | ⟨_,_,h1,_⟩
  · simp only [VRels] at h4
    subst h4
    exact .inl ⟨b,off,cap,[],h1,h2,h3,by simp [VRels],(fun j u hj=>by cases hj),trivial⟩
  · exact .inr (.inl ⟨trivial,trivial,a,cap,h1,by simp⟩)
  · rcases h with rfl | rfl <;> cases h1
def Settles (Γ : Nat→List AV) (s : AS) (x : AV) (s' : AS) (x' : AV) : Prop:=∀ G w u,SRel Γ G s w→VRel G x u→∃ G',G.le G'∧SRel Γ G' s' w∧VRel G' x' u
theorem Settles.refl (x : AV) : Settles Γ s x s x:=fun G _ _ hs hv=>⟨G,.refl G,hs,hv⟩
theorem Settles.trans {s1 s2 s3 : AS} {x y z : AV} (h : Settles Γ s1 x s2 y) (k : Settles Γ s2 y s3 z) : Settles Γ s1 x s3 z:=by
  intro G w u hs hv
  obtain ⟨G1,h1,h2,h3⟩:=h G w u hs hv
  obtain ⟨G2,k1,k2,k3⟩:=k G1 w u h2 h3
  exact ⟨G2,h1.trans k1,k2,k3⟩
theorem Settles.weak {x y : AV} (h : x.weak y) : Settles Γ s x s y:=fun G _ _ hs hv=>⟨G,.refl G,hs,h _ _ hv⟩
theorem Settles.le {s' : AS} (x : AV) (h : s'.le s) : Settles Γ s x s' x:=fun G _ _ hs hv=>⟨G,.refl G,hs.mono h,hv⟩
theorem SRel.reObj {o : Nat} {cs cs' : List AV} (h : SRel Γ G s w) (ho : s.objs o = some cs) (hw : ∀ vs,VRels G cs vs→VRels G cs' vs) : SRel Γ G (s.set o cs') w:=by
  refine ⟨h.ro,?_,h.objLt,h.inj,h.own,h.ownInj,h.ownLast,h.freshO,h.freshT,h.below,h.others,h.base,h.glob,h.soft⟩
  intro o' ds hd
  by_cases e : o' = o
  · subst e
    rw [AS.set_objs_same] at hd
    cases hd
    obtain ⟨b,vs,h1,h2,h3,h4⟩:=h.objs o' cs ho
    exact ⟨b,vs,h1,hw vs h2,h3,h4⟩
  · rw [AS.set_objs_ne _ e] at hd
    exact h.objs o' ds hd
theorem Settles.cells {O : Nat} {A B : List AV} {a b : AV} (x : AV) (hO : s.objs O = some (A ++ a :: B)) (hw : a.weak b) : Settles Γ s x (s.set O (A ++ b :: B)) x:=by
  intro G w u hs hv
  refine ⟨G,.refl G,hs.reObj hO (fun vs h=>?_),hv⟩
  have hl:=h.length
  have h1:=h.take A.length
  have h2:=h.drop A.length
  rw [List.take_left] at h1
  rw [List.drop_left] at h2
  generalize hd : vs.drop A.length = ds at h2
  simp only [VRels] at h2
  obtain ⟨u1,us,rfl,h3,h4⟩:=h2
  rw [← List.take_append_drop A.length vs,hd]
  exact h1.append (by simp only [VRels]; exact ⟨u1,us,rfl,hw _ _ h3,h4⟩)
theorem Settles.inner {O o sz n cap : Nat} {A B cs rest : List AV} (x : AV) (hO : s.objs O = some (A ++ .osl o 0 sz n cap :: B)) (ho : s.objs o = some (cs ++ rest)) (hne : O≠o) (hl : cs.length = n * sz) :
    Settles Γ s x ((s.drop o).set O (A ++ .sl sz n cs .any :: B)) x:=by
  intro G w u hs hv
  obtain ⟨b,vs,h1,h2,h3,h4,h5⟩:=hs.freeze ho
  refine ⟨_,h3,h5.reObj (cs:=A ++ .osl o 0 sz n cap :: B) (by rw [AS.drop_objs,upd_ne _ _ hne]; exact hO) (fun us h=>?_),VRel.mono h3 _ _ hv⟩
  have k1:=h.take A.length
  have k2:=h.drop A.length
  rw [List.take_left] at k1
  rw [List.drop_left] at k2
  generalize hd : us.drop A.length = ds at k2
  simp only [VRels] at k2
  obtain ⟨u1,us1,rfl,k3,k4⟩:=k2
  rw [← List.take_append_drop A.length us,hd]
  refine k1.append ?_
  simp only [VRels]
  refine ⟨u1,us1,rfl,?_,k4⟩
  simp only [VRel] at k3 ⊢
  obtain ⟨b',q1,q2,q3⟩:=k3
  rw [h3.obj _ _ h1] at q1
  cases q1
  have q5:=h2.take cs.length
  rw [List.take_left] at q5
  refine .inl ⟨b,0,cap,_,q2,hl,q3,VRels.mono h3 _ _ q5,?_,trivial⟩
  intro j y hj
  rw [List.getElem?_take] at hj
  split at hj
  · exact h4 j y hj
  · cases hj
theorem Settles.outer {o sz n cap : Nat} {cs rest : List AV} (ho : s.objs o = some (cs ++ rest)) (hl : cs.length = n * sz) : Settles Γ s (.osl o 0 sz n cap) (s.drop o) (.sl sz n cs .any):=by
  intro G w u hs hv
  obtain ⟨b,vs,h1,h2,h3,h4,h5⟩:=hs.freeze ho
  refine ⟨_,h3,h5,?_⟩
  simp only [VRel] at hv ⊢
  obtain ⟨b',q1,q2,q3⟩:=hv
  rw [h1] at q1
  cases q1
  have q5:=h2.take cs.length
  rw [List.take_left] at q5
  refine .inl ⟨b,0,cap,_,q2,hl,q3,VRels.mono h3 _ _ q5,?_,trivial⟩
  intro j y hj
  rw [List.getElem?_take] at hj
  split at hj
  · exact h4 j y hj
  · cases hj
theorem ACalls.settle {f : FuncId} {args : List AV} {Q R : AV→AS→Prop} (h : ACalls P Γ f args s Q) (k : ∀ r s1,Q r s1→∃ s2 r2,Settles Γ s1 r s2 r2∧R r2 s2) : ACalls P Γ f args s R:=by
  intro G w vs hs ha
  refine (h G w vs hs ha).mono ?_
  rintro e w' ⟨G',r,v,s',rfl,h1,h2,h3,h4⟩
  obtain ⟨s2,r2,k1,k2⟩:=k r s' h4
  obtain ⟨G2,q1,q2,q3⟩:=k1 G' w' v h2 h3
  exact ⟨G2,r2,v,s2,rfl,h1.trans q1,q2,q3,k2⟩
theorem Ghost.settle {E : Env} {d : Nat} {x x' : AV} {s' : AS} (hE : E d = x) (h : Settles Γ s x s' x') : Ghost Γ N E s (upd E d x') s':=by
  intro G a w hr
  have hd:=hr.tmps d
  rw [hE] at hd
  obtain ⟨G',h1,h2,h3⟩:=h G w _ hr.st hd
  refine ⟨G',h1,h2,hr.size,fun i=>?_,hr.defers.trans h1.df.symm⟩
  simp only [upd]
  split
  · rename_i e
    subst e
    exact h3
  · exact VRel.mono h1 _ _ (hr.tmps i)
theorem awp_reg_at2 {E : Env} {Q : Exit→Env→AS→Prop} {id : Nat} {L2 : List Oper} {o1 o2 o : Oper} {code : Code} (hg : o.guard = none) (hd : ∀ d,o.dst = some d→d < N)
    (h : ∀ ops,AY P Γ N ops [o1,o2] (fun E1 s1=>∃ K1 : AV→AS→Prop,(∀ G a w,Rel Γ N G E1 s1 a w→OpRes P Γ G K1 ((execOp a.eval o).run P w)) ∧
      ∀ r s2,K1 r s2→AY P Γ N ops L2 (fun E' s'=>AWp P Γ N code Q E' s') (updO E1 o.dst r) s2) E s) :
    AWp P Γ N (.seq (.region id (o1 :: o2 :: o :: L2).toArray false) code) Q E s :=
  awp_reg_mid [o1,o2] L2 hg hd (h _)
theorem awp_region_mid {E : Env} {Q : Exit→Env→AS→Prop} {id : Nat} (L1 L2 : List Oper) {o : Oper} (hg : o.guard = none) (hd : ∀ d,o.dst = some d→d < N)
    (h : AY P Γ N (L1 ++ o :: L2).toArray L1 (fun E1 s1=>∃ K1 : AV→AS→Prop,(∀ G a w,Rel Γ N G E1 s1 a w→OpRes P Γ G K1 ((execOp a.eval o).run P w)) ∧
      ∀ r s2,K1 r s2→AY P Γ N (L1 ++ o :: L2).toArray L2 (fun E' s'=>Q .normal E' s') (updO E1 o.dst r) s2) E s) :
    AWp P Γ N (.region id (L1 ++ o :: L2).toArray false) Q E s:=by
  rw [ay] at h
  intro G a w hr
  refine wp_region ?_
  have hall : ∀ ops : Array Oper,(List.range ops.size).map (ops[·]?) = ops.toList.map some:=by
    intro ops
    apply List.ext_getElem?
    intro i
    simp only [List.getElem?_map]
    by_cases hi : i < ops.size
    · simp [hi]
    · simp [hi]
  have hmap:=hall (L1 ++ o :: L2).toArray
  generalize hI : List.range (L1 ++ o :: L2).toArray.size = I at hmap
  have h1 : (I.take L1.length).map ((L1 ++ o :: L2).toArray[·]?) = L1.map some:=by
    rw [List.map_take,hmap]; simp
  have h2 : (I.drop L1.length).map ((L1 ++ o :: L2).toArray[·]?) = (o :: L2).map some:=by
    rw [List.map_drop,hmap]; simp
  rw [← List.take_append_drop L1.length I]
  generalize I.take L1.length = I1 at h1
  generalize I.drop L1.length = I2 at h2
  cases I2 with
  | nil=>simp at h2
  | cons i I2 =>
    simp only [List.map_cons,List.cons.injEq] at h2
    refine AX_wpOps_append L1 I1 (i :: I2) h1 (AX_frame _ h) hr ?_
    rintro G1 E1 s1 a1 w1 hG1 hr1 ⟨⟨K1,hop,hk⟩,hfr1⟩
    rw [wpOps_cons]
    simp only [wpOp,h2.1]
    rw [if_pos (wanted_none hg)]
    refine .inl (Oper.wp_of_res hr1 hd (hop G1 a1 w1 hr1) ?_)
    intro G3 r s3 a3 w3 hG3 hr3 hK
    refine AX_wpOps L2 I2 h2.2 (AX_frame _ (hk r s3 hK)) hr3 ?_
    rintro G4 E4 s4 a4 w4 hG4 hr4 ⟨hk4,hfr4⟩
    refine ⟨G4,E4,s4,hG1.trans (hG3.trans hG4),hr4,hk4,?_⟩
    intro i hi
    have mem : ∀ L : List Oper,i ∈ dsts L↔∃ o ∈ L,o.dst = some i:=fun L=>by simp [dsts,List.mem_filterMap]
    have hi' : ¬ ∃ o' ∈ L1 ++ o :: L2,o'.dst = some i:=fun hm=>hi ((mem _).2 hm)
    have m1 : i ∉ dsts L1:=fun hm=>hi' (by obtain ⟨o,k1,k2⟩:=(mem _).1 hm; exact ⟨o,by simp [k1],k2⟩)
    have m2 : i ∉ dsts L2:=fun hm=>hi' (by obtain ⟨o,k1,k2⟩:=(mem _).1 hm; exact ⟨o,by simp [k1],k2⟩)
    have m3 : o.dst≠some i:=fun e=>hi' ⟨o,by simp,e⟩
    rw [hfr4 i m2,updO_other m3,hfr1 i m1]
theorem awp_region_at4 {E : Env} {Q : Exit→Env→AS→Prop} {id : Nat} {L2 : List Oper} {o1 o2 o3 o4 o : Oper} (hg : o.guard = none) (hd : ∀ d,o.dst = some d→d < N)
    (h : ∀ ops,AY P Γ N ops [o1,o2,o3,o4] (fun E1 s1=>∃ K1 : AV→AS→Prop,(∀ G a w,Rel Γ N G E1 s1 a w→OpRes P Γ G K1 ((execOp a.eval o).run P w)) ∧
      ∀ r s2,K1 r s2→AY P Γ N ops L2 (fun E' s'=>Q .normal E' s') (updO E1 o.dst r) s2) E s) :
    AWp P Γ N (.region id (o1 :: o2 :: o3 :: o4 :: o :: L2).toArray false) Q E s :=
  awp_region_mid [o1,o2,o3,o4] L2 hg hd (h _)
end Go.AM
namespace Go.AM
open Go Go.RowKit
variable {P : Program} {Γ : Nat→List AV} {N : Nat} {x y : List AV}
theorem awp_reg_stl {E : Env} {s : AS} {Q : Exit→Env→AS→Prop} (d : Nat) {id : Nat} {L : List Oper} {y : Code} (hd : d ∈ dsts L)
    (h : ∀ K : Env→AS→Prop,(∀ E s x' s',Settles Γ s (E d) s' x'→AWp P Γ N y Q (upd E d x') s'→K E s)→AY P Γ N L.toArray L K E s) : AWp P Γ N (.seq (.region id L.toArray false) y) Q E s:=by
  refine awp_seq (awp_region_ghost ?_)
  have:=h (fun E' s'=>∃ E'' s'',Ghost Γ N E' s' E'' s''∧(∀ i,i ∉ dsts L→E'' i = E' i)∧thenQ (AWp P Γ N y Q) Q .normal E'' s'') ?_
  · rw [ay] at this
    simpa using this
  · intro E' s' x' s'' h1 h3
    exact ⟨upd E' d x',s'',Ghost.settle rfl h1,fun i hi=>upd_ne _ _ (fun e=>hi (e ▸ hd)),h3⟩
theorem Settles.made {s : AS} {o n cap : Nat} {cs : List AV} {sp : Sp} (ho : s.objs o = none) (hl : cs.length = n) : Settles Γ (s.set o cs) (.osl o 0 1 n cap) s (.sl 1 n cs .any):=by
  have:=Settles.outer (Γ:=Γ) (s:=s.set o cs) (o:=o) (sz:=1) (n:=n) (cap:=cap) (cs:=cs) (rest:=[]) (by rw [AS.set_objs_same,List.append_nil]) (by omega)
  rwa [AS.drop_set ho] at this
theorem AS.set_swap (s : AS) {a b : Nat} (h : a≠b) (x y : List AV) : (s.set a x).set b y = (s.set b y).set a x:=by
  simp only [AS.set,AS.mk.injEq,and_true]
  funext i
  simp only [upd]
  by_cases e : i = b
  · subst e; rw [if_pos rfl,if_neg (fun k=>h k.symm),if_pos rfl]
  · rw [if_neg e,if_neg e]
theorem AS.set_three (s : AS) {a b c : Nat} (h1 : s.objs a = none) (h2 : (if b = a then some x else s.objs b) = none) (h3 : (if c = b then some y else if c = a then some x else s.objs c) = none) (z : List AV) :
    ((s.set a x).set b y).set c z = ((s.set c z).set a x).set b y∧(s.set c z).objs a = none∧((s.set c z).set a x).objs b = none∧s.objs c = none:=by
  have ba : b≠a:=by rintro rfl; simp at h2
  have cb : c≠b:=by rintro rfl; simp at h3
  have ca : c≠a:=by rintro rfl; rw [if_neg cb,if_pos rfl] at h3; cases h3
  rw [if_neg ba] at h2
  rw [if_neg cb,if_neg ca] at h3
  refine ⟨?_,?_,?_,h3⟩
  · rw [AS.set_swap (s.set a x) cb.symm,AS.set_swap s ca.symm]
  · rw [AS.set_objs_ne _ ca.symm]; exact h1
  · rw [AS.set_objs_ne _ ba,AS.set_objs_ne _ cb.symm]; exact h2
theorem clo_weak (f : FuncId) : (AV.v (.func (.func f) #[] #[])).weak (.clo f []):=by
  intro G u h
  simp only [VRel] at h
  subst h
  simp only [VRel,VRels]
  exact ⟨[],rfl,rfl⟩
theorem aends_cell_tmp2 {E : Env} {s : AS} {Post : AV→AS→Prop} {a T t u o off : Nat} {cs : List AV} {v : AV} (h1 : E a = .ptr o off) (h2 : s.objs o = some cs) (h3 : P.cellsOf T≠0) (h4 : aload P T (cs.drop off) = some v)
    (h : ∃ r s',(AV.tup [v,E t,E u]).weak r∧s'.le s∧Post r s') : retQ P [.cell a T,.tmp t,.tmp u] Post .ret E s:=by
  simp only [retQ,AEnds,aresL,ares,h1,h2,if_neg h3,h4]
  exact h
end Go.AM
