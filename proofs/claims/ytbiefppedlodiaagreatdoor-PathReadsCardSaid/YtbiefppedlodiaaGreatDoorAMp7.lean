/- An abstract machine for the model and the rules of its walk, each proved sound over the model; no condition. -/
import Derived.Test.YtbiefppedlodiaaGreatDoorAMp6
import Derived.Shelf.Spec.SlicesInsertGrow
set_option linter.unusedSimpArgs false
set_option linter.unusedVariables false
namespace Go.AM
open Go Go.RowKit
variable {P : Program} {Γ : Nat→List AV} {G : Gh} {s : AS} {w : World} {N : Nat}
theorem uP (need old : Nat) (e : TypeId) (x : Nat) (h : need < 2 ^ 63) : (Question.appendCap need old e).cut x < 2 ^ 63:=by
  have bS:=Nat.mod_lt x (show 0 < 2 ^ 63 - need by omega);simp only [Question.cut];omega
theorem uQ {m : Nat} {u : Value} (eQ : ∀ w',(Builtin.lenOf u).run P w' = .ok m w') {T xT e : TypeId} (hT : P.underlying T = some (.slice e)) (hx : kH P (some xT) = true)
    {z : List AV} (he : pq P e z)
    {base : Option Addr} {n cap : Nat} {olds news : List Value} (hold : ∀ w',(∀ b j,w'.cell? ⟨b,j,none⟩ = w.cell? ⟨b,j,none⟩)→(Builtin.firstCells (P.cellsOf e) n (.slice base n cap)).run P w' = .ok olds.toArray w')
    (ln : ∀ w',(∀ b j,w'.cell? ⟨b,j,none⟩ = w.cell? ⟨b,j,none⟩)→(Builtin.firstCells (P.cellsOf e) m u).run P w' = .ok news.toArray w')
    (hg : cap < n + m) (dS : (n + m) * P.bytesOf e≤2 ^ 46) (Ep : n + m≤2 ^ 46) (ty : TypeId) :
    ∃ (kJ : Nat) (rest : List Value),n + m≤kJ∧kJ < 2 ^ 63∧rest.length = (kJ - (n + m)) * P.cellsOf e ∧
      (Builtin.append_ #[T,xT] ty #[.slice base n cap,u]).run P w = .ok (.slice (some ⟨w.heap.size,0,none⟩) (n + m) kJ) (w.drew.alloc (.cells ((olds ++ news) ++ rest).toArray e)):=by
  obtain ⟨hz,eI,sy⟩:=he;obtain ⟨zv,Lb,xN⟩:=dE hz;obtain ⟨i,hi⟩:=ff eI;have hb : P.bytesOf e = i.bytes:=(by simp [Program.bytesOf,hi]);have Iv : ∀ w',(typeInfo e).run P w' = .ok i w':=(fun w'=>by simp [typeInfo,hi]);have SS : ¬ (n + m≤cap):=(by omega);have nH : ¬ (9223372036854775807 < (n : Int) + (m : Int)):=(by omega);have uw:=nextslicecap_le (need:=n + m) (old:=cap) hg;have nI : ¬ (2 ^ 48 < Builtin.nextslicecap (n + m) cap * i.bytes):=by
    rw [hb] at dS;have h2 : Builtin.nextslicecap (n + m) cap * i.bytes≤2 * (n + m) * i.bytes:=Nat.mul_le_mul_right _ uw;rw [Nat.mul_assoc] at h2;omega
  have sy : zv.cells.size = P.cellsOf e:=by
    rw [xN] at sy;simpa using sy
  have vK:=hold w.drew (fun b j=>rfl);have hn1:=ln w.drew (fun b j=>rfl);refine ⟨_,(Builtin.zeroCells zv.cells ((Question.appendCap (n + m) cap e).cut (w.tape w.drawn (.appendCap (n + m) cap e)) - (n + m))).toList,fg (n + m) cap e (w.tape w.drawn (.appendCap (n + m) cap e)),uP (n + m) cap e (w.tape w.drawn (.appendCap (n + m) cap e)) (by omega),?_,?_⟩
  · simp [Builtin.zeroCells,sy]
  · have hf : (Question.appendCap (n + m) cap e).forced = false:=rfl;rcases nG hx with ⟨e',hx⟩ | hx;all_goals
      simp [Builtin.append_,run_underlying hT,aQ eI,run_underlying hx,eQ,SS,Iv,nH,nI,hf,vK,hn1,Lb,newRow];congr 2;apply Array.ext';simp [List.append_assoc]
def m6 (sz : Nat) (s : AS) (x : AV) (n : Nat) (cs : List AV) : Prop :=
  (n = 0∧cs = []∧(x = bZ∨x = .sl sz 0 [] .full∨x = .sl sz 0 [] .new)) ∨
    ∃ o cap rest,x = .gw o 0 sz n cap∧s.aq o = some (cs ++ rest)∧cs.length = n * sz∧rest.length = (cap - n) * sz∧n≤cap∧cap < 2 ^ 63
theorem pJ : ∀ (ds cs rest : List AV),ds.length≤rest.length→bn (cs ++ rest) cs.length ds = cs ++ ds ++ rest.drop ds.length
  | [],cs,rest,_=>by simp [bn]
  | d :: ds,cs,rest,h=>by
    cases rest with
    | nil=>simp at h
    | cons r rest =>
      simp only [bn];have e : (cs ++ r :: rest).set cs.length d = (cs ++ [d]) ++ rest:=(by simp);have:=pJ ds (cs ++ [d]) rest (by simpa using h);rw [List.length_append,List.length_singleton] at this;rw [e,this];simp
theorem uR {x y : AV} {u v : Value} {m n : Nat} {cs ds : List AV} {T xT e : TypeId} {z : List AV} (hT : P.underlying T = some (.slice e)) (hx : kH P (some xT) = true) (he : pq P e z)
    (eQ : iO (P.cellsOf e) s y = some (m,ds)) (hm : m≠0) (h1 : (n + m) * P.bytesOf e≤2 ^ 46) (h2 : n + m≤2 ^ 46) (lY : ds.all AV.one = true) (hb : m6 (P.cellsOf e) s x n cs)
    (pd : au G x u) (sM : au G y v) (hs : aN Γ G s w) (ty : TypeId) :
    ∃ G' r w' o cap rest,(Builtin.append_ #[T,xT] ty #[u,v]).run P w = .ok r w'∧G.le G'∧n + m≤cap∧cap < 2 ^ 63∧rest.length = (cap - (n + m)) * P.cellsOf e∧(s.aq o = none∨∃ rQ,x = .gw o 0 (P.cellsOf e) n rQ) ∧
      aN Γ G' (s.set o (cs ++ ds ++ rest)) w'∧au G' (.gw o 0 (P.cellsOf e) (n + m) cap) r:=by
  obtain ⟨us,hv,hlen,ja,fB⟩:=rH (P:=P) eQ sM hs;have Gm:=hv.length;have grow : ∀ (base : Option Addr) (cap : Nat) (vs : List Value),ar G cs vs→cap < n + m →
      (∀ w',(∀ b j,w'.cell? ⟨b,j,none⟩ = w.cell? ⟨b,j,none⟩)→(Builtin.firstCells (P.cellsOf e) n (.slice base n cap)).run P w' = .ok vs.toArray w') →
      ∃ G' r w' o kJ rest,(Builtin.append_ #[T,xT] ty #[.slice base n cap,v]).run P w = .ok r w'∧G.le G'∧n + m≤kJ∧kJ < 2 ^ 63∧rest.length = (kJ - (n + m)) * P.cellsOf e∧(s.aq o = none∨∃ rQ,x = .gw o 0 (P.cellsOf e) n rQ) ∧
        aN Γ G' (s.set o (cs ++ ds ++ rest)) w'∧au G' (.gw o 0 (P.cellsOf e) (n + m) kJ) r:=by
    intro base cap vs Gn bS hold;obtain ⟨kJ,rest,xt,hc3,Ao,ll⟩:=uQ (P:=P) (w:=w) ja hT hx he (base:=base) (n:=n) (cap:=cap) (olds:=vs) (news:=us) hold fB bS h1 h2 ty;obtain ⟨o,k1,k2,k3,k4⟩:=hs.drew.newObj (cs:=(cs ++ ds) ++ rest.map .v) (vs:=(vs ++ us) ++ rest) ((Gn.append hv).append (ar.Ef rest)) e;refine ⟨_,_,_,o,kJ,rest.map .v,ll,k2,xt,hc3,by simpa using Ao,.inl k1,k3,?_⟩;simp only [au];exact ⟨_,k4,rfl,xt⟩
  rcases hb with ⟨rfl,rfl,rfl | rfl | rfl⟩ | ⟨o,cap,rest,rfl,ho,gy,uS,_,Ep⟩
  · simp only [bZ,au] at pd;subst pd;exact grow none 0 [] (by simp [ar]) (by omega) (fun w' _=>run_firstCells_none w' _ _ _ _)
  · simp only [au] at pd;rcases pd with ⟨b,off,cap,vs,rfl,hl,_,GL,qm,rF⟩ | ⟨_,_,a,cap,rfl,xP⟩ | ⟨_,_,h,_⟩
    · simp only [eA] at rF;subst rF;exact grow _ 0 [] (by simp [ar]) (by omega) (fun w' _=>run_firstCells_some w' _ _ _ _ _ [] (by simp) (by simp))
    · rcases xP with h | h | ⟨_,rfl⟩
      · cases h
      · cases h
      · exact grow _ 0 [] (by simp [ar]) (by omega) (fun w' _=>run_firstCells_some w' _ _ _ _ _ [] (by simp) (by simp))
    · cases h
  · simp only [au] at pd;rcases pd with ⟨b,off,cap,vs,rfl,hl,_,GL,qm,rF⟩ | ⟨_,_,a,cap,rfl,xP⟩ | ⟨_,_,h,_⟩
    · simp only [eA] at rF;obtain ⟨rfl,_⟩:=rF;exact grow _ 0 [] (by simp [ar]) (by omega) (fun w' _=>run_firstCells_some w' _ _ _ _ _ [] (by simp) (by simp))
    · rcases xP with h | h | ⟨h,_⟩ <;> cases h
    · cases h
  · have Ph:=pd;simp only [au] at pd;obtain ⟨b,BG,rfl,Em⟩:=pd;obtain ⟨b',vs,q1,q2,q3,q4⟩:=hs.aq o _ ho;rw [BG] at q1;cases q1;have Rk:=q2.length;have Gn:=q2.take cs.length;rw [List.take_left] at Gn;have Iu:=Gn.length;rcases Nat.lt_or_ge cap (n + m) with bS | dr
    · refine grow _ cap (vs.take cs.length) Gn bS (fun w' SR=>?_);refine run_firstCells_some w' _ _ _ _ _ _ (by omega) (fun j x hj=>?_);rw [cH,SR];rw [List.getElem?_take] at hj;split at hj
      · rw [Nat.zero_add]; exact (q4 j x hj).1
      · cases hj
    · have PB : m * P.cellsOf e≤(cap - n) * P.cellsOf e:=Nat.mul_le_mul_right _ (by omega);have Ls : cs.length + ds.length≤(cs ++ rest).length:=(by rw [List.length_append,uS,Gm,hlen]; omega);obtain ⟨f1,f2,f3⟩:=kL hs ho BG (off:=cs.length) Ls hv;rw [pJ ds cs rest (by rw [Gm,hlen,uS]; exact PB)] at f3;rw [gy] at f1 f2 f3;have ll:=qP (P:=P) (w:=w) (n:=n) (m:=m) (cap:=cap) (off:=0) (b:=b) ja hT hx he.2.1 (fB w (fun _ _=>rfl)) (by rw [Nat.zero_add]; exact f1) (by rw [Nat.zero_add]; exact f2) (lq hv lY) dr ty;rw [Nat.zero_add] at ll;refine ⟨G,_,_,o,cap,_,ll,.refl G,dr,Ep,?_,.inr ⟨cap,rfl⟩,f3,?_⟩
      · rw [List.length_drop,uS,Gm,hlen,← Nat.sub_mul,Nat.sub_sub]
      · simp only [au];exact ⟨b,BG,rfl,dr⟩
theorem lF {ρ : Operand→AV} {ρ' : Operand→Value} {o : Oper} {x y : Operand} {m n : Nat} {cs ds : List AV} {T xT e : TypeId} {z : List AV} (ho : o.op = .call { callee:=.builtin .append,args:=#[x,y],argTypes:=#[T,xT] })
    (hT : P.underlying T = some (.slice e)) (hx : kH P (some xT) = true) (hz : ba P e = some z) (hc : P.cellsOf e≠0) (sy : z.length = P.cellsOf e)
    (eQ : iO (P.cellsOf e) s (ρ y) = some (m,ds)) (hm : m≠0) (h1 : (n + m) * P.bytesOf e≤2 ^ 46) (h2 : n + m≤2 ^ 46) (lY : ds.all AV.one = true) (hb : m6 (P.cellsOf e) s (ρ x) n cs)
    (hρ : ∀ x,au G (ρ x) (ρ' x)) (hs : aN Γ G s w) :
    du P Γ G (fun r s'=>∃ ob cap rest,r = .gw ob 0 (P.cellsOf e) (n + m) cap∧n + m≤cap∧cap < 2 ^ 63∧rest.length = (cap - (n + m)) * P.cellsOf e∧(s.aq ob = none∨∃ rQ,ρ x = .gw ob 0 (P.cellsOf e) n rQ)∧s' = s.set ob (cs ++ ds ++ rest)) ((execOp ρ' o).run P w):=by
  obtain ⟨G',r,w',ob,cap,rest,q1,q2,q3,q3',q4,q5,q6,q7⟩:=uR hT hx ⟨hz,hc,sy⟩ eQ hm h1 h2 lY hb (hρ x) (hρ y) hs o.type;rw [dc ho];simp only [builtin];exact dF ⟨G',r,w',_,_,by simpa using q1,q2,q6,q7,ob,cap,rest,rfl,q3,q3',q4,q5,rfl⟩
end Go.AM
namespace Go.AM
open Go Go.RowKit
variable {rd : Option Nat} {P : Program} {Γ : Nat→List AV} {G : Gh} {s : AS} {w : World} {N : Nat}
def cM (Γ : Nat→List AV) (s : AS) (x : AV) (s' : AS) (x' : AV) : Prop:=∀ G w u,aN Γ G s w→au G x u→∃ G',G.le G'∧aN Γ G' s' w∧au G' x' u
theorem cM.refl (x : AV) : cM Γ s x s x:=fun G _ _ hs hv=>⟨G,.refl G,hs,hv⟩
theorem cM.trans {s1 s2 s3 : AS} {x y z : AV} (h : cM Γ s1 x s2 y) (k : cM Γ s2 y s3 z) : cM Γ s1 x s3 z:=by
  intro G w u hs hv;obtain ⟨G1,h1,h2,h3⟩:=h G w u hs hv;obtain ⟨G2,k1,k2,k3⟩:=k G1 w u h2 h3;exact ⟨G2,h1.trans k1,k2,k3⟩
theorem cM.aA {x y : AV} (h : x.aA y) : cM Γ s x s y:=fun G _ _ hs hv=>⟨G,.refl G,hs,h _ _ hv⟩
theorem aN.Ry {o : Nat} {cs cs' : List AV} (h : aN Γ G s w) (ho : s.aq o = some cs) (hw : ∀ vs,ar G cs vs→ar G cs' vs) : aN Γ G (s.set o cs') w:=by
  refine ⟨h.ro,?_,h.cX,h.inj,h.own,h.cN,h.bR,h.cD,h.cb,h.below,h.others,h.base,h.ia,h.soft⟩;intro o' ds hd;by_cases e : o' = o
  · subst e;rw [AS.aa] at hd;cases hd;obtain ⟨b,vs,h1,h2,h3,h4⟩:=h.aq o' cs ho;exact ⟨b,vs,h1,hw vs h2,h3,h4⟩
  · rw [AS.ae _ e] at hd;exact h.aq o' ds hd
theorem cM.cells {O : Nat} {A B : List AV} {a b : AV} (x : AV) (hO : s.aq O = some (A ++ a :: B)) (hw : a.aA b) : cM Γ s x (s.set O (A ++ b :: B)) x:=by
  intro G w u hs hv;refine ⟨G,.refl G,hs.Ry hO (fun vs h=>?_),hv⟩;have hl:=h.length;have h1:=h.take A.length;have h2:=h.drop A.length;rw [List.take_left] at h1;rw [List.drop_left] at h2;generalize hd : vs.drop A.length = ds at h2;simp only [ar] at h2;obtain ⟨u1,us,rfl,h3,h4⟩:=h2;rw [← List.take_append_drop A.length vs,hd];exact h1.append (by simp only [ar]; exact ⟨u1,us,rfl,hw _ _ h3,h4⟩)
theorem cM.inner {O o sz n cap : Nat} {A B cs rest : List AV} (x : AV) (hO : s.aq O = some (A ++ .gw o 0 sz n cap :: B)) (ho : s.aq o = some (cs ++ rest)) (dp : O≠o) (hl : cs.length = n * sz) :
    cM Γ s x ((s.drop o).set O (A ++ .sl sz n cs .any :: B)) x:=by
  intro G w u hs hv;obtain ⟨b,vs,h1,h2,h3,h4,h5⟩:=hs.freeze ho;refine ⟨_,h3,h5.Ry (cs:=A ++ .gw o 0 sz n cap :: B) (by rw [AS.qo,fu _ _ dp]; exact hO) (fun us h=>?_),au.mono h3 _ _ hv⟩;have k1:=h.take A.length;have k2:=h.drop A.length;rw [List.take_left] at k1;rw [List.drop_left] at k2;generalize hd : us.drop A.length = ds at k2;simp only [ar] at k2;obtain ⟨u1,us1,rfl,k3,k4⟩:=k2;rw [← List.take_append_drop A.length us,hd];refine k1.append ?_;simp only [ar];refine ⟨u1,us1,rfl,?_,k4⟩;simp only [au] at k3 ⊢;obtain ⟨b',q1,q2,q3⟩:=k3;rw [h3.obj _ _ h1] at q1;cases q1;have q5:=h2.take cs.length;rw [List.take_left] at q5;refine .inl ⟨b,0,cap,_,q2,hl,q3,ar.mono h3 _ _ q5,?_,trivial⟩;intro j y hj;rw [List.getElem?_take] at hj;split at hj
  · exact h4 j y hj
  · cases hj
theorem cM.outer {o sz n cap : Nat} {cs rest : List AV} (ho : s.aq o = some (cs ++ rest)) (hl : cs.length = n * sz) : cM Γ s (.gw o 0 sz n cap) (s.drop o) (.sl sz n cs .any):=by
  intro G w u hs hv;obtain ⟨b,vs,h1,h2,h3,h4,h5⟩:=hs.freeze ho;refine ⟨_,h3,h5,?_⟩;simp only [au] at hv ⊢;obtain ⟨b',q1,q2,q3⟩:=hv;rw [h1] at q1;cases q1;have q5:=h2.take cs.length;rw [List.take_left] at q5;refine .inl ⟨b,0,cap,_,q2,hl,q3,ar.mono h3 _ _ q5,?_,trivial⟩;intro j y hj;rw [List.getElem?_take] at hj;split at hj
  · exact h4 j y hj
  · cases hj
theorem ah.settle {f : FuncId} {args : List AV} {Q R : AV→AS→Prop} (h : ah P Γ f args s Q) (k : ∀ r s1,Q r s1→∃ s2 r2,cM Γ s1 r s2 r2∧R r2 s2) : ah P Γ f args s R:=by
  intro G w vs hs ha;refine (h G w vs hs ha).mono ?_;rintro e w' ⟨G',r,v,s',rfl,h1,h2,h3,h4⟩;obtain ⟨s2,r2,k1,k2⟩:=k r s' h4;obtain ⟨G2,q1,q2,q3⟩:=k1 G' w' v h2 h3;exact ⟨G2,r2,v,s2,rfl,h1.trans q1,q2,q3,k2⟩
theorem EZ {E : Env} {Q : Exit→Env→AS→Prop} {id : Nat} {L2 : List Oper} {o1 o2 o : Oper} {code : Code} (hg : o.guard = none) (hd : ∀ d,o.dst = some d→d < N)
    (h : ∀ ops,AY P Γ N ops [o1,o2] (fun E1 s1=>∃ K1 : AV→AS→Prop,(∀ G a w,Rel Γ N G E1 s1 a w→du P Γ G K1 ((execOp a.eval o).run P w)) ∧
      ∀ r s2,K1 r s2→AY P Γ N ops L2 (fun E' s'=>ck P Γ N code Q E' s') (bg E1 o.dst r) s2) E s) :
    ck P Γ N (.seq (.region id (o1 :: o2 :: o :: L2).toArray false) code) Q E s :=
  pG [o1,o2] L2 hg hd (h _)
theorem pK {E : Env} {Q : Exit→Env→AS→Prop} {id : Nat} (L1 L2 : List Oper) {o : Oper} (hg : o.guard = none) (hd : ∀ d,o.dst = some d→d < N)
    (h : AY P Γ N (L1 ++ o :: L2).toArray L1 (fun E1 s1=>∃ K1 : AV→AS→Prop,(∀ G a w,Rel Γ N G E1 s1 a w→du P Γ G K1 ((execOp a.eval o).run P w)) ∧
      ∀ r s2,K1 r s2→AY P Γ N (L1 ++ o :: L2).toArray L2 (fun E' s'=>Q .normal E' s') (bg E1 o.dst r) s2) E s) :
    ck P Γ N (.region id (L1 ++ o :: L2).toArray false) Q E s:=by
  rw [ay] at h;intro G a w hr;refine wpIn_region ?_;have cu : ∀ ops : Array Oper,(List.range ops.size).map (ops[·]?) = ops.toList.map some:=by
    intro ops;apply List.ext_getElem?;intro i;simp only [List.getElem?_map];by_cases hi : i < ops.size
    · simp [hi]
    · simp [hi]
  have pH:=cu (L1 ++ o :: L2).toArray;generalize hI : List.range (L1 ++ o :: L2).toArray.size = I at pH;have h1 : (I.take L1.length).map ((L1 ++ o :: L2).toArray[·]?) = L1.map some:=by
    rw [List.map_take,pH]; simp
  have h2 : (I.drop L1.length).map ((L1 ++ o :: L2).toArray[·]?) = (o :: L2).map some:=by
    rw [List.map_drop,pH]; simp
  rw [← List.take_append_drop L1.length I];generalize I.take L1.length = I1 at h1;generalize I.drop L1.length = I2 at h2;cases I2 with
  | nil=>simp at h2
  | cons i I2 =>
    simp only [List.map_cons,List.cons.injEq] at h2;refine dZ L1 I1 (i :: I2) h1 (dK _ h) hr ?_;rintro G1 E1 s1 a1 w1 ig ra ⟨⟨K1,gk,hk⟩,CQ⟩;rw [wpOpsIn_cons];simp only [wpOpIn,h2.1];rw [if_pos (ee hg)];refine (Oper.mX ra hd (gk G1 a1 w1 ra) ?_);intro G3 r s3 a3 w3 Ru rb hK;refine lr L2 I2 h2.2 (dK _ (hk r s3 hK)) rb ?_;rintro G4 E4 s4 a4 w4 V0 D9 ⟨Tc,LO⟩;refine ⟨G4,E4,s4,ig.trans (Ru.trans V0),D9,Tc,?_⟩;intro i hi;have mem : ∀ L : List Oper,i ∈ bU L↔∃ o ∈ L,o.dst = some i:=(fun L=>by simp [bU,List.mem_filterMap]);have bc : ¬ ∃ o' ∈ L1 ++ o :: L2,o'.dst = some i:=fun hm=>hi ((mem _).2 hm);have m1 : i ∉ bU L1:=fun hm=>bc (by obtain ⟨o,k1,k2⟩:=(mem _).1 hm; exact ⟨o,by simp [k1],k2⟩);have m2 : i ∉ bU L2:=fun hm=>bc (by obtain ⟨o,k1,k2⟩:=(mem _).1 hm; exact ⟨o,by simp [k1],k2⟩);have m3 : o.dst≠some i:=fun e=>bc ⟨o,by simp,e⟩;rw [LO i m2,bW m3,CQ i m1]
theorem yE {E : Env} {Q : Exit→Env→AS→Prop} {id : Nat} {L2 : List Oper} {o1 o2 o3 o4 o : Oper} (hg : o.guard = none) (hd : ∀ d,o.dst = some d→d < N)
    (h : ∀ ops,AY P Γ N ops [o1,o2,o3,o4] (fun E1 s1=>∃ K1 : AV→AS→Prop,(∀ G a w,Rel Γ N G E1 s1 a w→du P Γ G K1 ((execOp a.eval o).run P w)) ∧
      ∀ r s2,K1 r s2→AY P Γ N ops L2 (fun E' s'=>Q .normal E' s') (bg E1 o.dst r) s2) E s) :
    ck P Γ N (.region id (o1 :: o2 :: o3 :: o4 :: o :: L2).toArray false) Q E s :=
  pK [o1,o2,o3,o4] L2 hg hd (h _)
end Go.AM
namespace Go.AM
open Go Go.RowKit
variable {P : Program} {Γ : Nat→List AV} {N : Nat} {x y : List AV}
end Go.AM
namespace Go.AM
open Go Go.RowKit
variable {P : Program} {Γ : Nat→List AV} {G : Gh} {s : AS} {w : World} {N : Nat} {E : Env}
def Ay (E : Env) : List Tmp→List AV→Env
  | p :: ps,x :: xs=>Ay (aF E p x) ps xs
  | _,_=>E
theorem BN {G : Gh} : ∀ (ps : List Tmp) (xs : List AV) (us : List Value) (E : Env) (t : Array Value),ar G xs us→t.size = N→(∀ p ∈ ps,p < N)→(∀ i,au G (E i) (t.getD i undef)) →
    ((ps.zip us).foldl (fun t (pv : Tmp × Value)=>t.setIfInBounds pv.1 pv.2) t).size = N∧∀ i,au G (Ay E ps xs i) (((ps.zip us).foldl (fun t (pv : Tmp × Value)=>t.setIfInBounds pv.1 pv.2) t).getD i undef)
  | [],xs,us,E,t,hv,hs,hp,h=>by simp only [Ay,List.zip_nil_left,List.foldl_nil]; exact ⟨hs,h⟩
  | p :: ps,[],us,E,t,hv,hs,hp,h=>by simp only [ar] at hv; subst hv; simp only [Ay,List.zip_nil_right,List.foldl_nil]; exact ⟨hs,h⟩
  | p :: ps,x :: xs,us,E,t,hv,hs,hp,h=>by
    simp only [ar] at hv;obtain ⟨u,wL,rfl,h1,h2⟩:=hv;simp only [List.zip_cons_cons,List.foldl_cons,Ay];refine BN ps xs wL (aF E p x) (t.setIfInBounds p u) h2 (by simpa using hs) (fun q hq=>hp q (by simp [hq])) fun i=>?_;simp only [aF];split
    · rename_i e;subst e;have : i < t.size:=(by rw [hs]; exact hp i (by simp));simpa [Array.getD,this] using h1
    · rename_i e;have:=h i;simp only [Array.getD_eq_getD_getElem?] at this ⊢;rw [Array.getElem?_setIfInBounds_ne (by omega)];exact this
def v8 (P : Program) (Γ : Nat→List AV) (gf : FuncId) (cd : List AV) (xs : List (List AV)) : Prop :=
  ∀ (I : Nat→AS→Prop) (l : Nat) (s : AS) (G : Gh) (W : World) (lb : List Value),G.df = []→ar G cd lb→I 0 s→aN Γ G s W →
    (∀ i x s1 G1 us W1,xs[i]? = some x→I i s1→G.le G1→aN Γ G1 s1 W1→ar G1 x us→YieldAt Fence.wide 0 P l us.toArray W1 fun e W'=>e = .returned (.bool true)∧∃ G2 s2,G1.le G2∧aN Γ G2 s2 W'∧I (i + 1) s2) →
    CallsIn Fence.wide 0 P gf (#[.func (.yield l) #[] #[]] ++ lb.toArray) W fun e W'=>(∃ v,e = .returned v)∧∃ G2 s2,G.le G2∧aN Γ G2 s2 W'∧I xs.length s2
theorem C1 {a : Act} {g : Operand} {ps : List Tmp} {assign body : Code} {gf : FuncId} {cd : List AV} {xs : List (List AV)} (hr : Rel Γ N G E s a w) (uK : G.df = []) (hg : aI Γ E g = .qK gf cd) (Lc : af P gf = true) (Ld : v8 P Γ gf cd xs)
    (hp : ∀ p ∈ ps,p < N) (JT : ∀ x ∈ xs,x.length = ps.length) (I : Nat→AS→Prop) (h0 : I 0 s)
    (To : ∀ (i : Nat) (x : List AV) (s1 : AS),xs[i]? = some x→I i s1→ck P Γ N assign (fun e E2 s2=>e = .normal∧ck P Γ N body (fun e E3 s3=>e = .normal∧I (i + 1) s3) E2 s2) (Ay E ps x) s1) :
    (Code.rangeFunc g ps.toArray assign body).wpIn Fence.wide 0 P (fun e a' w'=>e = .normal∧∃ D G' s',G.le G'∧w.heap.size≤D∧w'.heap[D]? = some (.deferred (some [])) ∧
      a' = { a with defers:={ target:=.collected D,args:=#[] } :: a.defers }∧aN Γ G' s' w'∧I xs.length s') a w:=by
  have Td:=hr.eval g;rw [hg] at Td;simp only [au] at Td;obtain ⟨lb,hg',Te⟩:=Td;have SW : G.w0.heap.size≤w.heap.size:=hr.st.below.size;have hBw : G.B≤w.heap.size:=hr.st.base;refine wpIn_rangeFunc ?_;intro fn V2;obtain ⟨rec,pI⟩ : ∃ rec : LoopState→Option Code→Loop,rec = fun st pe=>{ state:=st,pending:=pe,fn,tmps:=a.tmps,params:=ps.toArray,assign,body,defers:=w.heap.size }:=⟨_,rfl⟩;obtain ⟨W1,Pw⟩ : ∃ W1,(w.alloc (.deferred (some []))).alloc (.loop (rec .ready none)) = W1:=⟨_,rfl⟩;have Tf : W1.heap[w.heap.size + 1]? = some (.loop (rec .ready none)):=by
    rw [← Pw]; have:=World.alloc_heap_new (w.alloc (.deferred (some []))) (.loop (rec .ready none)); rwa [World.size_alloc] at this
  have gE : W1.heap[w.heap.size]? = some (.deferred (some [])):=by
    rw [← Pw]; exact (Below.heap_alloc _ _ _ (by simp)).trans (World.alloc_heap_new w _)
  have iQ : aN Γ G s W1:=by
    rw [← Pw]; exact (hr.st.alloc _ (by intro c T lo hi e; cases e)).alloc _ (by intro c T lo hi e; cases e)
  refine ⟨w.heap.size + 1,[{ target:=.collected w.heap.size,args:=#[] }],W1,{ target:=.fn (.func gf) lb.toArray,args:=#[.func (.yield (w.heap.size + 1)) #[] #[]] },W1,gf,
    #[.func (.yield (w.heap.size + 1)) #[] #[]] ++ lb.toArray,W1,?_,?_,?_,?_,(fun e=>by cases e),?_⟩
  · rw [← Pw,pI]; exact run_enterLoop_outer _ _ _ _ _
  · simp only [resolve,hg'];simp [go_sem]
  · intro f' _; trivial
  · have:=nJ (w:=W1) Lc (#[.func (.yield (w.heap.size + 1)) #[] #[]] ++ lb.toArray);simpa [invoke,go_sem] using this
  · have hsW : aN Γ (G.setW W1) s W1:=iQ.setW;refine (Ld I (w.heap.size + 1) s (G.setW W1) W1 lb uK (ar.sub (G.gA W1) _ _ Te) h0 hsW ?_).mono ?_
    · rintro i x s1 G1 us W hx hI hle h2 hu;have JX : G1.w0 = W1:=hle.w0;have Tg : G1.B = G.B:=hle.B;have JY : dt W1 W:=(by have:=h2.others; rwa [JX] at this);have hl:=JY _ _ Tf (by intros; simp);have hk:=JY _ _ gE (by intros; simp);have hbW : Below G.B W1 W:=(by have:=h2.below; rwa [JX,Tg] at this);obtain ⟨q1,q2⟩:=iQ.sI hle h2;have bS : w.heap.size + 1 < W.heap.size:=(Array.getElem?_eq_some_iff.1 hl).1;have hy:=run_yield (P:=P) (args:=us.toArray) hl (by rw [pI]; simp [← hu.length,JT x (List.mem_of_getElem? hx)]);rw [pI] at hy;refine ⟨fn,_,assign,body,hy,roundIn_of_wpIn V2 ?_⟩;have e3 : ((ps.toArray).zip us.toArray).foldl (fun t (p,v)=>t.setIfInBounds p v) a.tmps = (ps.zip us).foldl (fun t (pv : Tmp × Value)=>t.setIfInBounds pv.1 pv.2) a.tmps:=(by simp);have LP : Rel Γ N ((G1.setW G.w0).setW W) (Ay E ps x) s1 { tmps:=((ps.toArray).zip us.toArray).foldl (fun t (p,v)=>t.setIfInBounds p v) a.tmps,defers:=[] } W:=by
        rw [e3];have htm:=BN (G:=(G1.setW G.w0).setW W) ps x us E a.tmps (ar.sub (G:=G1.setW G.w0) (Gh.gA _ _) _ _ (ar.sub (G1.gA G.w0) _ _ hu)) hr.size hp fun k=>au.sub (G:=G1.setW G.w0) (Gh.gA _ _) _ _ (au.mono q2 _ _ (hr.tmps k));exact ⟨q1.setW,htm.1,htm.2,by rw [show ((G1.setW G.w0).setW W).df = G1.df from rfl,hle.df]; exact uK.symm⟩
      refine wpIn_mono (To i x s1 hx hI _ _ W LP (rd:=some (w.heap.size + 1))) ?_;rintro e a1 Wa ⟨Ga,E2,s2,Aw,JZ,⟨rfl,Vj⟩,-⟩;have Th : dt W Wa:=by
        have:=JZ.st.others;rwa [show Ga.w0 = W from Aw.w0] at this
      have hba : Below G.B W Wa:=by
        have:=JZ.st.below;rwa [show Ga.w0 = W from Aw.w0,show Ga.B = G.B from Aw.B.trans Tg] at this
      have Ti:=Th _ _ hl (by intros; simp);have xcC:=Th _ _ hk (by intros; simp);obtain ⟨gb1,gb2⟩:=q1.sI Aw JZ.st;refine ⟨_,run_beginRound Ti (by rw [pI]),?_⟩;have LQ : w.heap.size + 1 < Wa.heap.size:=(Array.getElem?_eq_some_iff.1 Ti).1;obtain ⟨W2,LR⟩ : ∃ W2,Wa.putObj (w.heap.size + 1) (.loop { rec .ready none with state:=.busy }) = W2:=⟨_,rfl⟩;have Iu : W2.heap[w.heap.size + 1]? = some (.loop { rec .ready none with state:=.busy }):=(by rw [← LR]; exact World.putObj_heap_same LQ);have Vh : Ga.B = G.B:=Aw.B.trans Tg;have oR : aN Γ (Ga.setW G.w0) s2 W2:=by
        rw [← LR];exact gb1.putObj Ti (by intros; simp) (by intros; simp) (by show G.w0.heap.size≤_; omega) (by show Ga.B≤_; omega)
      rw [LR];have x6 : Rel Γ N ((Ga.setW G.w0).setW W2) E2 s2 a1 W2 :=
        ⟨oR.setW,JZ.size,fun k=>au.sub (G:=Ga) (G':=(Ga.setW G.w0).setW W2) ⟨rfl,rfl,rfl,rfl⟩ _ _ (JZ.tmps k),JZ.defers⟩
      refine wpIn_mono (Vj _ _ W2 x6 (rd:=some (w.heap.size + 1))) ?_;rintro e a3 W3 ⟨G2,E3,s3,g1,⟨g2,-,-,-⟩,⟨rfl,hI3⟩,-⟩;have Tj : G2.w0 = W2:=g1.w0;have V3 : G2.B = G.B:=g1.B.trans Vh;have O9 : dt W2 W3:=by
        have:=g2.others;rwa [Tj] at this
      have V4 : Below G.B W2 W3:=by
        have:=g2.below;rwa [Tj,V3] at this
      have JK:=O9 _ _ Iu (by intros; simp);obtain ⟨g3,g4⟩:=oR.sI g1 g2;have rb : (Instr.endRound (w.heap.size + 1) none).run P W3 = .ok (.bool true) (W3.putObj (w.heap.size + 1) (.loop (rec .ready none))):=by
        have:=run_endRound (P:=P) none JK;rw [pI] at this ⊢;exact this
      have G9 : w.heap.size + 1 < W3.heap.size:=(Array.getElem?_eq_some_iff.1 JK).1;have ON:=g3.putObj (o':=.loop (rec .ready none)) JK (by intros; simp) (by intros; simp) (by show G.w0.heap.size≤_; omega) (by show G2.B≤_; omega);have V5 : ∀ (V : World) (o : Obj),w.heap.size + 1 < V.heap.size→Below G.B V (V.putObj (w.heap.size + 1) o):=fun V o hV =>
        (Below.refl _ _).grown (row:=some (w.heap.size + 1)) ⟨rfl,rfl,rfl,by simp [World.putObj],fun i _ hi=>World.putObj_heap_other (fun e=>hi (by rw [e]))⟩ (by omega) (fun i e=>by cases e; omega)
      refine ⟨_,_,rb,rfl,G2.setW W1,s3,?_,?_,hI3⟩
      · exact ⟨fun b j v hv=>g1.ro b j v (Aw.ro b j v hv),fun o b hb=>g1.obj o b (Aw.obj o b hb),fun t e r ht=>g1.tok t e r (Aw.tok t e r ht),g1.B.trans Aw.B,JX.symm,g1.df.trans Aw.df⟩
      · refine ON.sub (G:=G2.setW G.w0) (G':=G2.setW W1) ⟨rfl,rfl,rfl,rfl⟩ rfl rfl ?_ ?_
        · show Below G2.B W1 _;rw [V3];refine (hbW.trans hba).trans (Below.trans ?_ (V4.trans (V5 _ _ G9)));rw [← LR];exact V5 _ _ LQ
        · intro k o LS vE;replace LS : W1.heap[k]? = some o:=LS;by_cases e : k = w.heap.size + 1
          · subst e;rw [Tf] at LS;cases LS;exact World.putObj_heap_same G9
          · rw [World.putObj_heap_other e];refine O9 k o ?_ vE;rw [← LR,World.putObj_heap_other e];exact Th k o (JY k o LS vE) vE
    · rintro e W2 ⟨⟨v,rfl⟩,G2,s2,h1,h2,V9⟩;have JX : G2.w0 = W1:=h1.w0;have JY : dt W1 W2:=(by have:=h2.others; rwa [JX] at this);have hl:=JY _ _ Tf (by intros; simp);have hk:=JY _ _ gE (by intros; simp);obtain ⟨q1,q2⟩:=iQ.sI h1 h2;refine ⟨none,_,by have:=run_endLoop (P:=P) hl (by rw [pI]; simp); rw [pI] at this; exact this,rfl,w.heap.size,G2.setW G.w0,s2,q2,Nat.le_refl _,(World.putObj_heap_other (by omega)).trans hk,rfl,?_,V9⟩;rw [pI] at hl;exact q1.putObj hl (by intros; simp) (by intros; simp) (by show G.w0.heap.size≤_; omega) (by rw [show (G2.setW G.w0).B = G2.B from rfl,h1.B]; show G.B≤_; omega)
def Hh (P : Program) (Γ : Nat→List AV) (N : Nat) (rs : List ResultVar) (b7 : AV→AS→Prop) (c : Code) (E : Env) (s : AS) : Prop :=
  ∀ (G : Gh) (a : Act) (w : World),G.df = []→Rel Γ N G E s a w→c.wpIn Fence.wide 0 P (fun e a' w'=>(e = .normal∨e = .ret)∧∃ D G' E' s',G.le G'∧(G.w0.heap.size≤D∧G.B≤D)∧w'.heap[D]? = some (.deferred (some [])) ∧
      a'.defers = [{ target:=.collected D,args:=#[] }]∧Rel Γ N (G'.cP a'.defers) E' s' a' w'∧bz P rs b7 E' s') a w
theorem yF {f : FuncId} {fn : Func} {c : Code} {args : List AV} {b7 : AV→AS→Prop} {s : AS} (hf : P.funcs[f]? = some fn) (hb : fn.body = some c) {n : Nat} (hN : fn.ntmps = n) {rs : Array ResultVar} (OL : fn.results = rs) (hn : args.length≤n)
    (h : Hh P Γ n rs.toList b7 c (br args) s) : ah P Γ f args s b7:=by
  subst hN;subst OL;exact oH hf hb hn h
variable {rs : List ResultVar} {b7 : AV→AS→Prop}
theorem PC {x y : Code} (h : ck P Γ N x (fun e E' s'=>e = .normal∧Hh P Γ N rs b7 y E' s') E s) : Hh P Γ N rs b7 (.seq x y) E s:=by
  intro G a w uK hr;refine wpIn_seq (wpIn_mono (F:=sO none) (n:=0) (h G a w hr) ?_);rintro e a1 w1 ⟨G1,E1,s1,g1,g2,⟨rfl,k⟩,-⟩;refine wpIn_mono (k G1 a1 w1 (g1.df.trans uK) g2) ?_;rintro e a' w' ⟨he,D,G',E',s',h1,h2,h3⟩;exact ⟨he,D,G',E',s',g1.trans h1,by rw [← g1.w0,← g1.B]; exact h2,h3⟩
theorem qA {id : Nat} {L : List Oper} {y : Code} (h : ∀ K : Env→AS→Prop,(∀ E s,Hh P Γ N rs b7 y E s→K E s)→AY P Γ N L.toArray L K E s) : Hh P Γ N rs b7 (.seq (.region id L.toArray false) y) E s:=by
  refine PC (nL ?_);have:=h (fun E s=>Exit.normal = .normal∧Hh P Γ N rs b7 y E s) fun E s k=>⟨rfl,k⟩;rw [ay] at this;simpa using this
def Hi (P : Program) (Γ : Nat→List AV) (N : Nat) (rs : List ResultVar) (b7 : AV→AS→Prop) (g : Operand) (ps : List Tmp) (assign body rest : Code) (E : Env) (s : AS) : Prop :=
  ∃ (gf : FuncId) (cd : List AV) (xs : List (List AV)) (I : Nat→AS→Prop),aI Γ E g = .qK gf cd∧af P gf = true∧v8 P Γ gf cd xs∧(∀ x ∈ xs,x.length = ps.length)∧I 0 s ∧
    (∀ (i : Nat) (x : List AV) (s1 : AS),xs[i]? = some x→I i s1→ck P Γ N assign (fun e E2 s2=>e = .normal∧ck P Γ N body (fun e E3 s3=>e = .normal∧I (i + 1) s3) E2 s2) (Ay E ps x) s1) ∧
    ∀ s2,I xs.length s2→ck P Γ N rest (cn P rs b7) E s2
theorem Ka {b : Nat} {x : Code} {g : Operand} {ps : List Tmp} {assign body rest : Code} (hp : ∀ p ∈ ps,p < N)
    (h : ck P Γ N x (fun e E' s'=>e = .normal∧Hi P Γ N rs b7 g ps assign body rest E' s') E s) : Hh P Γ N rs b7 (.seq (.seq x (.block b (.rangeFunc g ps.toArray assign body))) rest) E s:=by
  intro G a w uK hr;refine wpIn_seq (wpIn_seq (wpIn_mono (F:=sO none) (n:=0) (h G a w hr) ?_));rintro e a1 w1 ⟨G1,E1,s1,g1,g2,⟨rfl,gf,cd,xs,I,q1,q2,q3,q4,q5,q6,q7⟩,-⟩;have Wf : G1.df = []:=g1.df.trans uK;refine wpIn_block (wpIn_mono (C1 g2 Wf q1 q2 q3 hp q4 I q5 q6) ?_);rintro e a2 w2 ⟨rfl,D,G2,s2,h1,hD,hk,rfl,hs,hI⟩;have eI:=g2.st.below.size;have GM:=g2.st.base;refine ck.behind g2 h1 hk hs Wf (q7 s2 hI) ?_;intro e G3 E3 s3 a3 w3 j1 j2 j3 j4 j5;have hf : bz P rs b7 E3 s3∧(e = .normal∨e = .ret):=by
    cases e <;> simp only [cn] at j5
    · exact ⟨j5,.inl rfl⟩
    · exact ⟨j5,.inr rfl⟩
  exact ⟨hf.2,D,G3,E3,s3,g1.trans j1,⟨by rw [← g1.w0]; omega,by rw [← g1.B]; omega⟩,j2,j3,j4,hf.1⟩
theorem rf {id b : Nat} {L : List Oper} {g : Operand} {ps : List Tmp} {assign body rest : Code} (hp : ∀ p ∈ ps,p < N)
    (h : ∀ K : Env→AS→Prop,(∀ E s,Hi P Γ N rs b7 g ps assign body rest E s→K E s)→AY P Γ N L.toArray L K E s) : Hh P Γ N rs b7 (.seq (.seq (.region id L.toArray false) (.block b (.rangeFunc g ps.toArray assign body))) rest) E s:=by
  refine Ka hp (nL ?_);have:=h (fun E s=>Exit.normal = .normal∧Hi P Γ N rs b7 g ps assign body rest E s) fun E s k=>⟨rfl,k⟩;rw [ay] at this;simpa using this
end Go.AM
namespace Go.AM
open Go Go.RowKit
variable {P : Program} {Γ : Nat→List AV} {G : Gh} {s : AS} {w : World} {N : Nat} {E : Env}
theorem wW {Q : Exit→Env→AS→Prop} {id : Nat} {L2 : List Oper} {o1 o2 o3 o : Oper} (hg : o.guard = none) (hd : ∀ d,o.dst = some d→d < N)
    (h : ∀ ops,AY P Γ N ops [o1,o2,o3] (fun E1 s1=>∃ K1 : AV→AS→Prop,(∀ G a w,Rel Γ N G E1 s1 a w→du P Γ G K1 ((execOp a.eval o).run P w)) ∧
      ∀ r s2,K1 r s2→AY P Γ N ops L2 (fun E' s'=>Q .normal E' s') (bg E1 o.dst r) s2) E s) :
    ck P Γ N (.region id (o1 :: o2 :: o3 :: o :: L2).toArray false) Q E s :=
  pK [o1,o2,o3] L2 hg hd (h _)
def YA (P : Program) (Γ : Nat→List AV) (G0 : Gh) (l : Nat) (x : List AV) (s1 : AS) (b7 : AS→Prop) : Prop :=
  ∀ (G1 : Gh) (us : List Value) (W1 : World),G0.le G1→aN Γ G1 s1 W1→ar G1 x us→YieldAt Fence.wide 0 P l us.toArray W1 fun e W'=>e = .returned (.bool true)∧∃ G2 s2,G1.le G2∧aN Γ G2 s2 W'∧b7 s2
def IH (P : Program) (Γ : Nat→List AV) (N : Nat) (G0 : Gh) (c : Code) (Q : Exit→Env→AS→Prop) (E : Env) (s : AS) : Prop :=
  ∀ (G : Gh) (a : Act) (w : World),G0.le G→Rel Γ N G E s a w →
    c.wpIn Fence.wide 0 P (fun e a' w'=>∃ G' E' s',G.le G'∧Rel Γ N G' E' s' a' w'∧Q e E' s'∧∀ i,i ∉ writes c→E' i = E i) a w
variable {G0 : Gh} {Q : Exit→Env→AS→Prop}
theorem ck.y {c : Code} (h : ck P Γ N c Q E s) : IH P Γ N G0 c Q E s:=fun G a w _ hr=>h G a w hr (rd:=none)
theorem eV {x y : Code} (h : IH P Γ N G0 x (az (IH P Γ N G0 y Q) Q) E s) : IH P Γ N G0 (.seq x y) Q E s:=by
  intro G a w hG hr;refine wpIn_seq (wpIn_mono (h G a w hG hr) ?_);rintro e a' w' ⟨G',E',s',h1,h2,h3,h4⟩;have hw : ∀ i,i ∉ writes (.seq x y)→E' i = E i:=fun i hi=>h4 i (fun hm=>hi (by simp [writes,hm]));cases e <;> simp only [Exit.then,az] at h3 ⊢;case normal =>
    refine wpIn_mono (h3 G' a' w' (hG.trans h1) h2) ?_;rintro e xV ux ⟨sA,gB,fD,k1,k2,k3,k4⟩;exact ⟨sA,gB,fD,h1.trans k1,k2,k3,fun i hi=>by rw [k4 i (fun hm=>hi (by simp [writes,hm])),hw i hi]⟩
  all_goals exact ⟨G',E',s',h1,h2,h3,hw⟩
theorem qB {id : Nat} {c : Code} (h : IH P Γ N G0 c (aw id Q) E s) : IH P Γ N G0 (.block id c) Q E s:=by
  intro G a w hG hr;refine wpIn_block (wpIn_mono (h G a w hG hr) ?_);rintro e a' w' ⟨G',E',s',h1,h2,h3,h4⟩;cases e <;> simp only [Exit.inBlock,aw] at h3 ⊢;case exit id' =>
    split at h3
    · rename_i SZ; rw [if_pos SZ]; exact ⟨G',E',s',h1,h2,h3,h4⟩
    · rename_i SZ; rw [if_neg SZ]; exact ⟨G',E',s',h1,h2,h3,h4⟩
  all_goals exact ⟨G',E',s',h1,h2,h3,h4⟩
theorem Fa {c : Code} (I : Env→AS→Prop) (μ : Env→AS→Nat) (h0 : I E s)
    (round : ∀ E' s',I E' s'→(∀ i,i ∉ writes c→E' i = E i)→IH P Γ N G0 c (az (fun gB fD=>I gB fD∧μ gB fD < μ E' s') Q) E' s') : IH P Γ N G0 (.loop c) Q E s:=by
  intro G a w hG hr;let Φ : Act→World→Gh→Env→AS→Prop:=fun a w G' E' s'=>G.le G'∧Rel Γ N G' E' s' a w∧I E' s'∧∀ i,i ∉ writes c→E' i = E i;let C : Act→World→Nat→Prop:=fun a w n=>∃ G' E' s',Φ a w G' E' s'∧μ E' s' = n;open Classical in
  let ν : Act→World→Nat:=fun a w=>if h : ∃ n,C a w n then Classical.choose (exists_least _ h) else 0
  refine wpIn_loop (fun a w=>∃ n,C a w n) ν ⟨_,G,E,s,⟨.refl G,hr,h0,fun _ _=>rfl⟩,rfl⟩ ?_;intro a1 w1 hI;have hν : ν a1 w1 = Classical.choose (exists_least _ hI):=(by simp only [ν]; rw [dif_pos hI]);obtain ⟨G1,E1,s1,⟨g1,g2,g3,g4⟩,g5⟩:=(Classical.choose_spec (exists_least _ hI)).1;refine wpIn_mono (round E1 s1 g3 g4 G1 a1 w1 (hG.trans g1) g2) ?_;rintro e a' w' ⟨G',E',s',h1,h2,h3,h4⟩;have hw : ∀ i,i ∉ writes c→E' i = E i:=(fun i hi=>by rw [h4 i hi,g4 i hi]);cases e <;> simp only [Exit.then,az] at h3 ⊢;case normal =>
    have hC : ∃ n,C a' w' n:=⟨_,G',E',s',⟨g1.trans h1,h2,h3.1,hw⟩,rfl⟩;refine ⟨hC,?_⟩;have : ν a' w' = Classical.choose (exists_least _ hC):=(by simp only [ν]; rw [dif_pos hC]);rw [this,hν,← g5];exact Nat.lt_of_le_of_lt ((Classical.choose_spec (exists_least _ hC)).2 _ ⟨G',E',s',⟨g1.trans h1,h2,h3.1,hw⟩,rfl⟩) h3.2
  all_goals exact ⟨G',E',s',g1.trans h1,h2,h3,hw⟩
theorem Az {ρ : Operand→Value} {o : Oper} {f : Operand} {xs : List Operand} {ts : Array TypeId} {l : Nat} (ho : o.op = .call { callee:=.value f,args:=xs.toArray,argTypes:=ts }) (hf : ρ f = .func (.yield l) #[] #[]) :
    (execOp ρ o).run P w = (Instr.yield l (xs.map ρ).toArray).run P w:=by
  obtain ⟨dst,op,type,pos,after,guard⟩:=o;simp only at ho;subst ho;simp [execOp,resolve,hf,Deferred.ofValue,invoke]
theorem yG {G : Gh} {E : Env} {a : Act} {w : World} (hr : Rel Γ N G E s a w) : ∀ xs : List Operand,ar G (xs.map (aI Γ E)) (xs.map a.eval)
  | []=>by simp [ar]
  | x :: xs=>by simp only [List.map_cons,ar]; exact ⟨_,_,rfl,hr.eval x,yG hr xs⟩
theorem BO {l id : Nat} (L1 L2 : List Oper) {o : Oper} {f : Operand} {xs : List Operand} {ts : Array TypeId}
    (ho : o.op = .call { callee:=.value f,args:=xs.toArray,argTypes:=ts }) (hg : o.guard = none) (hd : ∀ d,o.dst = some d→d < N)
    (h1 : AY P Γ N (L1 ++ o :: L2).toArray L1 (fun E1 s1=>aI Γ E1 f = .v (.func (.yield l) #[] #[])∧∃ b7,YA P Γ G0 l (xs.map (aI Γ E1)) s1 b7 ∧
      ∀ s2,b7 s2→AY P Γ N (L1 ++ o :: L2).toArray L2 (fun E' s'=>Q .normal E' s') (bg E1 o.dst (.v (.bool true))) s2) E s) : IH P Γ N G0 (.region id (L1 ++ o :: L2).toArray false) Q E s:=by
  intro G a w hG hr;rw [ay] at h1;refine wpIn_region ?_;have pH:=BI (L1 ++ o :: L2).toArray;generalize List.range (L1 ++ o :: L2).toArray.size = I at pH ⊢;obtain ⟨I1,i,I2,rfl,m1,mo,m2⟩:=BJ (A:=L1) (B:=L2) (o:=o) pH;refine iz (l:=none) L1 I1 (i :: I2) m1 (dK _ h1) hr ?_;rintro G1 E1 s1 a1 w1 ig ra ⟨⟨hf,b7,hy,hk⟩,CQ⟩;have Ea:=ra.eval f;rw [hf] at Ea;simp only [au] at Ea;obtain ⟨fn,tmps,assign,body,q1,q2⟩:=hy G1 (xs.map a1.eval) w1 (hG.trans ig) ra.st (yG ra xs);simp only [wpOpsIn,mo];rw [if_pos (ee hg)];refine ⟨fun _ _=>trivial,?_⟩;rw [Oper.semAt_eq _ _ _ (by intro c; rw [ho]; simp),Az ho Ea,q1];rw [Oper.uponIn_round];refine ⟨fun e=>(by cases e),RoundIn.mono (F:=Fence.wide) q2 ?_⟩;rintro e W' ⟨rfl,G2,s2,g1,g2,g3⟩;have g4:=hk s2 g3;have tj : Rel Γ N G2 E1 s2 a1 W':=⟨g2,ra.size,fun i=>au.mono g1 _ _ (ra.tmps i),ra.defers.trans g1.df.symm⟩;have rb:=tj.put (dst:=o.dst) (Gh.le.refl G2) g2 (r:=.v (.bool true)) (v:=.bool true) (by simp [au]) hd;refine nR (l:=none) L2 I2 m2 (dK _ g4) rb ?_;rintro G3 E3 s3 a3 w3 h3 rb ⟨Wc,Tk⟩;refine ⟨G3,E3,s3,ig.trans (g1.trans h3),rb,Wc,fun j hj=>?_⟩;have mem : ∀ L : List Oper,j ∈ bU L↔∃ o ∈ L,o.dst = some j:=(fun L=>by simp [bU,List.mem_filterMap]);have gQ : ¬ ∃ o' ∈ L1 ++ o :: L2,o'.dst = some j:=fun hm=>hj ((mem _).2 hm);have m1 : j ∉ bU L1:=fun hm=>gQ (by obtain ⟨o,k1,k2⟩:=(mem _).1 hm; exact ⟨o,by simp [k1],k2⟩);have m2 : j ∉ bU L2:=fun hm=>gQ (by obtain ⟨o,k1,k2⟩:=(mem _).1 hm; exact ⟨o,by simp [k1],k2⟩);have m3 : o.dst≠some j:=fun e=>gQ ⟨o,by simp,e⟩;rw [Tk j m2,bW m3,CQ j m1]
theorem Hj {l id : Nat} {o1 o2 o p1 : Oper} {f : Operand} {xs : List Operand} {ts : Array TypeId} {code : Code}
    (ho : o.op = .call { callee:=.value f,args:=xs.toArray,argTypes:=ts }) (hg : o.guard = none) (hd : ∀ d,o.dst = some d→d < N)
    (h1 : ∀ (K : Env→AS→Prop),(∀ E s,IH P Γ N G0 code Q E s→K E s)→∀ ops,AY P Γ N ops [o1,o2] (fun E1 s1=>aI Γ E1 f = .v (.func (.yield l) #[] #[])∧∃ b7,YA P Γ G0 l (xs.map (aI Γ E1)) s1 b7 ∧
      ∀ s2,b7 s2→AY P Γ N ops [p1] K (bg E1 o.dst (.v (.bool true))) s2) E s) : IH P Γ N G0 (.seq (.region id #[o1,o2,o,p1] false) code) Q E s :=
  eV (BO [o1,o2] [p1] ho hg hd (h1 _ (fun _ _ h=>h) _))
theorem Hk {l id : Nat} {o1 o2 o3 o4 o5 o6 o p1 : Oper} {f : Operand} {xs : List Operand} {ts : Array TypeId} {code : Code}
    (ho : o.op = .call { callee:=.value f,args:=xs.toArray,argTypes:=ts }) (hg : o.guard = none) (hd : ∀ d,o.dst = some d→d < N)
    (h1 : ∀ (K : Env→AS→Prop),(∀ E s,IH P Γ N G0 code Q E s→K E s)→∀ ops,AY P Γ N ops [o1,o2,o3,o4,o5,o6] (fun E1 s1=>aI Γ E1 f = .v (.func (.yield l) #[] #[])∧∃ b7,YA P Γ G0 l (xs.map (aI Γ E1)) s1 b7 ∧
      ∀ s2,b7 s2→AY P Γ N ops [p1] K (bg E1 o.dst (.v (.bool true))) s2) E s) : IH P Γ N G0 (.seq (.region id #[o1,o2,o3,o4,o5,o6,o,p1] false) code) Q E s :=
  eV (BO [o1,o2,o3,o4,o5,o6] [p1] ho hg hd (h1 _ (fun _ _ h=>h) _))
theorem Fb {gf : FuncId} {fn : Func} {c : Code} {cd : List AV} {xs : List (List AV)} (hf : P.funcs[gf]? = some fn) (hb : fn.body = some c) {n : Nat} (hN : fn.ntmps = n) (OL : fn.results = #[]) (hn : cd.length + 1≤n)
    (h : ∀ (I : Nat→AS→Prop) (l : Nat) (s : AS) (G : Gh),I 0 s→(∀ i x s1,xs[i]? = some x→I i s1→YA P Γ G l x s1 (I (i + 1))) →
      IH P Γ n G c (fun e _ s'=>(e = .normal∨e = .ret)∧I xs.length s') (br (.v (.func (.yield l) #[] #[]) :: cd)) s) : v8 P Γ gf cd xs:=by
  subst hN;intro I l s G W lb uK Te h0 hs hy;refine callsIn_of_wp hf hb trivial ?_;have Tp:=Rel.entry (N:=fn.ntmps) (args:=.v (.func (.yield l) #[] #[]) :: cd) (vs:=.func (.yield l) #[] #[] :: lb) hs (by simp only [ar]; exact ⟨_,_,rfl,by simp [au],Te⟩) (by simpa using hn) uK;rw [show (#[.func (.yield l) #[] #[]] ++ lb.toArray : Array Value) = (.func (.yield l) #[] #[] :: lb).toArray from by simp];refine wpIn_mono (h I l s G h0 (fun i x s1 hx hI G1 us W1 hle h2 hu=>hy i x s1 G1 us W1 hx hI hle h2 hu) G _ W (.refl G) Tp) ?_;rintro e a' w' ⟨G',E',s',h1,h2,⟨h3,h4⟩,-⟩;have fin : bodyPost P fn (fun e W'=>(∃ v,e = .returned v)∧∃ G2 s2,G.le G2∧aN Γ G2 s2 W'∧I xs.length s2) .normal a' w':=by
    refine ⟨h2.defers.trans (h1.df.trans uK),.tuple #[],?_,⟨_,rfl⟩,G',s',h1,h2.st,h4⟩;rw [lz,OL];simp
  rcases h3 with rfl | rfl
  · exact fin
  · exact fin
end Go.AM
namespace Go.AM
open Go Go.RowKit
variable {P : Program} {Γ : Nat→List AV} {N : Nat} {rs : List ResultVar} {b7 : AV→AS→Prop}
theorem Hh.ghost {c : Code} {E E' : Env} {s s' : AS} (hg : fm Γ N E s E' s') (h : Hh P Γ N rs b7 c E' s') : Hh P Γ N rs b7 c E s:=by
  intro G a w uK hr;obtain ⟨G1,h1,h2⟩:=hg G a w hr;refine wpIn_mono (h G1 a w (h1.df.trans uK) h2) ?_;rintro e a' w' ⟨he,D,G',E2,s2,k1,k2,k3⟩;exact ⟨he,D,G',E2,s2,h1.trans k1,by rw [← h1.w0,← h1.B]; exact k2,k3⟩
theorem C2 {c : Code} {E : Env} {s : AS} {d o : Nat} {cs : List AV} (hd : E d = .ptr o 0) (ho : s.aq o = none) (h : Hh P Γ N rs b7 c (aF E d (.dq cs)) s) : Hh P Γ N rs b7 c E (s.set o cs):=by
  have:=fm.jf (Γ:=Γ) (N:=N) (E:=E) (s:=s.set o cs) (d:=d) hd (AS.aa _ _ _);rw [AS.drop_set ho] at this;exact h.ghost this
theorem Kb {c : Code} {E : Env} {s s' : AS} (h : AS.tells Γ s s') (k : Hh P Γ N rs b7 c E s') : Hh P Γ N rs b7 c E s :=
  fun G a w uK hr=>k G a w uK ⟨h G w hr.st,hr.size,hr.tmps,hr.defers⟩
end Go.AM
namespace Go.AM
open Go Go.RowKit
variable {rd : Option Nat} {P : Program} {Γ : Nat→List AV} {G : Gh} {s : AS} {w : World} {N : Nat} {ops : Array Oper}
inductive SM where
  | val
  | Gu (v : AV)
  | all (v : AV)
  | sB
def SM.cc : SM→Bool
  | .sB=>true
  | _=>false
def SM.isVal : SM→Bool
  | .val=>true
  | .all _=>true
  | _=>false
def Hl (P : Program) (Γ : Nat→List AV) (ops : Array Oper) (o : Oper) (E : Env) (s : AS) (v : AV) : Prop:=mK ops o E∧bX P Γ (aI Γ E) s (fun r s'=>r = v∧s' = s) o.op
def SV (P : Program) (Γ : Nat→List AV) (ops : Array Oper) (m : SM) (o : Oper) (E : Env) (s : AS) (v : AV) : Prop :=
  match m with
  | .val=>bL P Γ ops o E = some v
  | .Gu u=>v = u∧Hl P Γ ops o E s u
  | .all u=>v = u∧∀ s,Hl P Γ ops o E s u
  | .sB=>False
def jt (P : Program) (Γ : Nat→List AV) (N : Nat) (ops : Array Oper) : List (Oper × SM)→(Env→AS→Prop)→Env→AS→Prop
  | [],K,E,s=>K E s
  | (o,m) :: rest,K,E,s =>
    if m.cc = true then AX P Γ N ops [o] (jt P Γ N ops rest K) E s
    else (∀ d,o.dst = some d→d < N)∧∃ v,SV P Γ ops m o E s v∧jt P Γ N ops rest K (bg E o.dst v) s
theorem tu {m : SM} {o : Oper} {E E' : Env} {v : AV} (h : ∀ d,d ∈ o.looksAt ops→E' d = E d) (hv : SV P Γ ops m o E s v) : SV P Γ ops m o E' s v:=by
  have gk : ∀ x ∈ o.op.operands,aI Γ E' x = aI Γ E x:=fun x hx=>by
    cases x with
    | tmp t=>exact h t (List.mem_append_left _ (List.mem_filterMap.2 ⟨.tmp t,by simpa using hx,rfl⟩))
    | const v=>rfl
    | global g=>rfl
    | func f=>rfl
  cases m with
  | Gu u=>exact ⟨hv.1,uM h hv.2.1,(mh gk).2 hv.2.2⟩
  | all u=>exact ⟨hv.1,fun s=>⟨uM h (hv.2 s).1,(mh gk).2 (hv.2 s).2⟩⟩
  | val=>exact (jc h).trans hv
  | sB=>exact hv
theorem BP {m : SM} {o : Oper} {E : Env} {v v' : AV} (h : SV P Γ ops m o E s v) (h' : SV P Γ ops m o E s v') : v = v':=by
  cases m with
  | Gu u=>exact h.1.trans h'.1.symm
  | all u=>exact h.1.trans h'.1.symm
  | val=>exact Option.some.inj (Eq.trans (Eq.symm h) h')
  | sB=>exact h.elim
theorem C3 {o : Oper} {m : SM} {L : List (Oper × SM)} {E : Env} {K : Env→AS→Prop} (h : jt P Γ N ops ((o,m) :: L) K E s) : AX P Γ N ops [o] (jt P Γ N ops L K) E s:=by
  cases m with
  | sB=>simpa only [jt,SM.cc,if_true] using h
  | Gu u =>
    simp only [jt,SM.cc,Bool.false_eq_true,if_false] at h;obtain ⟨hd,v,⟨rfl,hg,hv⟩,h⟩:=h;refine (Hb hg).2 ?_;simp only [AX];exact ⟨hd,jb (fun r s' ⟨h1,h2⟩=>by subst h1 h2; exact h) hv⟩
  | all u =>
    simp only [jt,SM.cc,Bool.false_eq_true,if_false] at h;obtain ⟨hd,v,⟨rfl,hg⟩,h⟩:=h;obtain ⟨hg,hv⟩:=hg s;refine (Hb hg).2 ?_;simp only [AX];exact ⟨hd,jb (fun r s' ⟨h1,h2⟩=>by subst h1 h2; exact h) hv⟩
  | val =>
    simp only [jt,SM.cc,Bool.false_eq_true,if_false] at h;exact Hd (m:=.val) (L:=[]) (K:=jt P Γ N ops L K) (by intro e; cases e) (by simpa only [oS,GV,SV,SM.cc,Mk.cc,Bool.false_eq_true,if_false] using h)
theorem LZ {o : Oper} {m : SM} {L : List (Oper × SM)} {E : Env} {a : Act} {K : Env→AS→Prop} (h : jt P Γ N ops ((o,m) :: L) K E s) (hr : Rel Γ N G E s a w) :
    ∃ G' E' s' a' w',Rel Γ N G' E' s' a' w'∧jt P Γ N ops L K E' s'∧(∀ i,o.dst≠some i→E' i = E i)∧(m.cc = false→s' = s):=by
  cases hm : m.cc with
  | true =>
    obtain ⟨G',E',s',a',w',h1,h2,h3⟩:=hJ (C3 h) hr;exact ⟨G',E',s',a',w',h1,h2,h3,fun e=>by cases e⟩
  | false =>
    have h0:=h;simp only [jt,hm,Bool.false_eq_true,if_false] at h0;obtain ⟨hd,v,hv,h0⟩:=h0;have h1 : jt P Γ N ops [(o,m)] (fun E' s'=>s' = s∧E' = bg E o.dst v) E s:=by
      simp only [jt,hm,Bool.false_eq_true,if_false];exact ⟨hd,v,hv,by simp⟩
    obtain ⟨G',E',s',a',w',k1,⟨rfl,rfl⟩,k3⟩:=hJ (C3 h1) hr;exact ⟨G',_,_,a',w',k1,h0,k3,fun _=>rfl⟩
def SM.free (x y : SM) : Bool:=x.isVal || y.isVal || (!x.cc && !y.cc)
theorem Fc {y : Oper} {m : SM} (hm : m.cc = false) {L2 : List (Oper × SM)} {K : Env→AS→Prop} : ∀ (L1 : List (Oper × SM)) {G : Gh} {E : Env} {s : AS} {a : Act} {w : World},(∀ x ∈ L1,dL ops x.1 y∧x.2.free m = true)→jt P Γ N ops (L1 ++ (y,m) :: L2) K E s→Rel Γ N G E s a w →
    (∀ d,y.dst = some d→d < N)∧∃ v,SV P Γ ops m y E s v
  | [],G,E,s,a,w,_,h,hr=>by
    simp only [List.nil_append,jt,hm,Bool.false_eq_true,if_false] at h;obtain ⟨h1,v,h2,_⟩:=h;exact ⟨h1,v,h2⟩
  | (x,ex) :: L1,G,E,s,a,w,iS,h,hr=>by
    obtain ⟨Tq,Ea⟩:=iS (x,ex) (by simp);obtain ⟨G',E',s',a',w',uy,hK,hf,ir⟩:=LZ h hr;obtain ⟨h1,v,h2⟩:=Fc hm L1 (fun x hx=>iS x (List.mem_cons_of_mem _ hx)) hK uy;have h3 : SV P Γ ops m y E s' v:=tu (fun d hd=>(hf d fun e=>(Oper.apart_spec Tq).1 d e hd).symm) h2;refine ⟨h1,v,?_⟩;cases hx : ex.cc with
    | false=>rw [ir hx] at h3; exact h3
    | true =>
      cases m with
      | val=>exact h3
      | all u=>exact h3
      | sB=>cases hm
      | Gu u=>cases ex <;> simp_all [SM.free,SM.isVal,SM.cc]
theorem mN {y : Oper} {m : SM} (hm : m.cc = false) {L2 : List (Oper × SM)} {K : Env→AS→Prop} {v : AV} : ∀ (L1 : List (Oper × SM)) {E : Env} {s : AS},(∀ x ∈ L1,dL ops x.1 y∧x.2.free m = true)→SV P Γ ops m y E s v→jt P Γ N ops (L1 ++ (y,m) :: L2) K E s →
    jt P Γ N ops (L1 ++ L2) K (bg E y.dst v) s
  | [],E,s,_,hv,h=>by
    simp only [List.nil_append,jt,hm,Bool.false_eq_true,if_false] at h;obtain ⟨_,u,hu,h⟩:=h;rw [BP hv hu];exact h
  | (x,ex) :: L1,E,s,iS,hv,h=>by
    obtain ⟨Tq,Ea⟩:=iS (x,ex) (by simp);obtain ⟨a1,a2,a3⟩:=Oper.apart_spec Tq;have lZ : ∀ x ∈ L1,dL ops x.1 y∧x.2.free m = true:=fun x hx=>iS x (List.mem_cons_of_mem _ hx);have Lx : ∀ E' : Env,(∀ i,x.dst≠some i→E' i = E i)→SV P Γ ops m y E' s v:=fun E' hE=>tu (fun d hd=>hE d fun e=>a1 d e hd) hv;simp only [List.cons_append,jt] at h ⊢;split at h
    · rename_i he;rw [if_pos he];have hval : ∀ E' s',(∀ i,x.dst≠some i→E' i = E i)→SV P Γ ops m y E' s' v:=by
        intro E' s' hE;have:=Lx E' hE;cases m with
        | val=>exact this
        | all u=>exact this
        | sB=>cases hm
        | Gu u=>cases ex <;> simp_all [SM.free,SM.isVal,SM.cc]
      refine (pt (fun d hd=>a3 d hd) (fun d hd e=>a2 d e hd)).2 ?_;refine cf _ (fun E' s' hE=>?_) (cl h);exact mN hm L1 lZ (hval E' s' hE.2) hE.1
    · rename_i he;rw [if_neg he];obtain ⟨h0,u,hu,h⟩:=h;refine ⟨h0,u,tu (fun d hd=>bW fun e=>a3 d e hd) hu,?_⟩;rw [kW (fun d h1 h2=>a2 d h2 h1)];exact mN hm L1 lZ (Lx _ fun i hi=>bW hi) h
theorem rh {y : Oper} {L2 : List (Oper × SM)} {K : Env→AS→Prop} : ∀ (L1 : List (Oper × SM)) {E : Env} {s : AS},(∀ x ∈ L1,dL ops x.1 y∧x.2.free .sB = true)→jt P Γ N ops (L1 ++ (y,.sB) :: L2) K E s →
    AX P Γ N ops [y] (jt P Γ N ops (L1 ++ L2) K) E s
  | [],E,s,_,h=>by simpa only [List.nil_append,jt,SM.cc,if_true] using h
  | (x,ex) :: L1,E,s,iS,h=>by
    obtain ⟨GR,hex⟩:=iS (x,ex) (by simp);obtain ⟨a1,a2,a3⟩:=Oper.apart_spec GR;have lZ : ∀ x ∈ L1,dL ops x.1 y∧x.2.free .sB = true:=fun x hx=>iS x (List.mem_cons_of_mem _ hx);have he : ex.cc = false:=(by cases ex <;> simp_all [SM.free,SM.isVal,SM.cc]);have ir : ∀ (E' : Env) (s1 s2 : AS) (v : AV),SV P Γ ops ex x E' s1 v→SV P Γ ops ex x E' s2 v:=fun E' s1 s2 v h=>by
      cases ex <;> first | exact h | simp_all [SM.free,SM.isVal,SM.cc]
    simp only [List.cons_append,jt,he,Bool.false_eq_true,if_false] at h;obtain ⟨h0,v,hv,h⟩:=h;have h1:=rh L1 lZ h;have h2:=(pt (fun d hd=>a1 d hd) (fun d hd=>a2 d hd)).1 h1;refine cf _ (fun E' s' hE=>?_) (cl h2);simp only [List.cons_append,jt,he,Bool.false_eq_true,if_false];exact ⟨h0,v,ir _ s _ _ (tu (fun d hd=>hE.2 d fun e=>a3 d e hd) hv),hE.1⟩
theorem pL : ∀ (L : List (Oper × SM)) {K K' : Env→AS→Prop} {E : Env} {s : AS},(∀ E s,K E s→K' E s)→jt P Γ N ops L K E s→jt P Γ N ops L K' E s
  | [],K,K',E,s,hk,h=>hk _ _ h
  | x :: L,K,K',E,s,hk,h=>by
    simp only [jt] at h ⊢;split at h
    · rename_i he; rw [if_pos he]; exact cf _ (fun E s h=>pL L hk h) h
    · rename_i he;rw [if_neg he];obtain ⟨h0,v,hv,h⟩:=h;exact ⟨h0,v,hv,pL L hk h⟩
theorem uT : ∀ (L : List (Oper × SM)) {K : Env→AS→Prop} {E : Env} {s : AS},jt P Γ N ops L K E s→jt P Γ N ops L (fun E' s'=>K E' s'∧∀ i,i ∉ bU (L.map (·.1))→E' i = E i) E s
  | [],K,E,s,h=>⟨h,fun _ _=>rfl⟩
  | (o,mm) :: L,K,E,s,h=>by
    have px : ∀ i,i ∉ bU (((o,mm) :: L).map (·.1))→i ∉ bU (L.map (·.1))∧o.dst≠some i:=by
      intro i hi;simp only [bU,List.map_cons,List.filterMap_cons] at hi;refine ⟨fun hm=>hi ?_,fun e=>hi (by simp [e])⟩;simp only [bU] at hm;split
      · exact hm
      · exact List.mem_cons_of_mem _ hm
    simp only [jt] at h ⊢;split at h
    · rename_i he;rw [if_pos he];refine cf _ (fun E' s' hE=>?_) (cl h);refine pL L (fun gB fD x5=>⟨x5.1,fun i hi=>?_⟩) (uT L hE.1);obtain ⟨m1,m2⟩:=px i hi;rw [x5.2 i m1,hE.2 i m2]
    · rename_i he;rw [if_neg he];obtain ⟨h0,v,hv,h⟩:=h;refine ⟨h0,v,hv,pL L (fun gB fD x5=>⟨x5.1,fun i hi=>?_⟩) (uT L h)⟩;obtain ⟨m1,m2⟩:=px i hi;rw [x5.2 i m1,bW m2]
def fp (ops : Array Oper) (mk : Nat→SM) (i : Nat) : Oper × SM:=((ops[i]?).getD default,mk i)
def okS (ops : Array Oper) (D : List Nat) (mk : Nat→SM) (x y i j : Nat) : Bool :=
  (D.getD j 0).testBit i || (((ops[i]?).getD default).apart ops ((ops[j]?).getD default) && (mk i).free (mk j)) || (i == x && j == y)
def pwS (R : Nat→Nat→Bool) : List Nat→Bool
  | []=>true
  | i :: l=>l.all (fun j=>R i j && i != j) && pwS R l
def uU (ops : Array Oper) (D : List Nat) (mk : Nat→SM) (x y : Nat) (π : List Nat) : Bool:=pwS (okS ops D mk x y) π && ((List.range ops.size).all fun i=>π.contains i) && π.all fun i=>decide (i < ops.size)
def sD (π : List Nat) (listed : Array Bool) : List Nat:=π.filter fun i=>!listed.getD i true
theorem II {R : Nat→Nat→Bool} {listed : Array Bool} {i : Nat} (hi : i < listed.size) (h0 : listed.getD i true = false) : ∀ {π : List Nat},pwS R π = true→i ∈ π →
    ∃ L1 L2,sD π listed = L1 ++ i :: L2∧sD π (listed.setIfInBounds i true) = L1 ++ L2∧∀ z ∈ L1,R z i = true∧z≠i∧listed.getD z true = false
  | [],_,h=>by cases h
  | k :: π,hp,hm=>by
    simp only [pwS,Bool.and_eq_true,List.all_eq_true,bne_iff_ne] at hp;obtain ⟨h1,h2⟩:=hp;have cg : ∀ z,z≠i→(listed.setIfInBounds i true).getD z true = listed.getD z true:=by
      intro z hz;simp only [Array.getD_eq_getD_getElem?];rw [Array.getElem?_setIfInBounds_ne (by omega)]
    have hsi : (listed.setIfInBounds i true).getD i true = true:=by
      simp [Array.getD_eq_getD_getElem?,hi]
    by_cases e : k = i
    · subst e;refine ⟨[],sD π listed,?_,?_,by simp⟩
      · simp only [sD,List.filter_cons,h0,Bool.not_false,if_true,List.nil_append]
      · simp only [sD,List.filter_cons,hsi,Bool.not_true,Bool.false_eq_true,if_false,List.nil_append];apply List.filter_congr;intro z hz;rw [cg z (fun q=>(h1 z hz).2 q.symm)]
    · obtain ⟨L1,L2,q1,q2,q3⟩:=II (R:=R) hi h0 h2 ((List.mem_cons.1 hm).resolve_left fun q=>e q.symm);cases hk : listed.getD k true with
      | true =>
        refine ⟨L1,L2,?_,?_,q3⟩
        · simp only [sD,List.filter_cons,hk,Bool.not_true,Bool.false_eq_true,if_false]; exact q1
        · simp only [sD,List.filter_cons,cg k e,hk,Bool.not_true,Bool.false_eq_true,if_false]; exact q2
      | false =>
        refine ⟨k :: L1,L2,?_,?_,?_⟩
        · simp only [sD,List.filter_cons,hk,Bool.not_false,if_true,List.cons_append]; rw [← q1]; rfl
        · simp only [sD,List.filter_cons,cg k e,hk,Bool.not_false,if_true,List.cons_append]; rw [← q2]; rfl
        · intro z hz;rcases List.mem_cons.1 hz with rfl | hz
          · have OK : i ∈ π:=(List.mem_cons.1 hm).resolve_left fun q=>e q.symm;exact ⟨(h1 i OK).1,e,hk⟩
          · exact q3 z hz
theorem L0 {D : List Nat} {mk : Nat→SM} {x y i j : Nat} {o : Oper} (ho : ops[j]? = some o) (h : okS ops D mk x y i j = true) : (D.getD j 0).testBit i = true∨(dL ops ((ops[i]?).getD default) o∧(mk i).free (mk j) = true)∨(i = x∧j = y):=by
  simp only [okS,Bool.or_eq_true,Bool.and_eq_true,beq_iff_eq,ho,Option.getD_some] at h;rcases h with (h | h) | h
  · exact .inl h
  · exact .inr (.inl h)
  · exact .inr (.inr h)
theorem Kc {listed : Array Bool} (uz : vL ops (Region.before ops).toList = true) (h : Region.ready .any ops listed = []) : left ops listed = []:=by
  cases hl : left ops listed with
  | nil=>rfl
  | cons i L =>
    exfalso;have hi : i ∈ left ops listed:=(by rw [hl]; simp);obtain ⟨h1,h2⟩:=mem_left.1 hi;have xY : ∀ j,j < i→listed.getD j true = true:=by
      intro j hj;cases Eo : listed.getD j true with
      | true=>rfl
      | false =>
        exfalso;have CF : j ∈ left ops listed:=mem_left.2 ⟨by omega,Eo⟩;have hs : (left ops listed).Pairwise (· < ·):=by
          unfold left;exact List.Pairwise.filter _ List.pairwise_lt_range
        rw [hl] at hs CF;rcases List.mem_cons.1 CF with rfl | CF
        · omega
        · have:=(List.pairwise_cons.1 hs).1 j CF;omega
    have ho : ops[i]? = some ops[i]:=(by simp [h1]);have hr : i ∈ Region.ready .any ops listed:=by
      rw [mem_ready];refine ⟨h2,_,ho,fun e he hb=>?_⟩;have bS:=(fG uz ho).2 e (by simpa using he) hb;have:=xY _ bS;have eI : e.on < listed.size:=by
        rcases Nat.lt_or_ge e.on listed.size with h' | h'
        · exact h'
        · exfalso;have : listed.getD i true = true:=by
            simp [Array.getElem?_eq_none (show listed.size≤i by omega)]
          rw [h2] at this; cases this
      simpa [eI] using this
    rw [h] at hr;cases hr
def yH (ops : Array Oper) (mk : Nat→SM) (x y : Nat) (π1 π2 : List Nat) : Bool :=
  vL ops (Region.before ops).toList && uU ops (Region.before ops).toList mk x y π1 && (ops.size≤x || (uU ops (Region.before ops).toList mk y x π2 && x != y && (mk x).cc && (mk y).cc && x < ops.size && y < ops.size &&
    (List.range ops.size).all fun i=>!(mk i).cc || i == x || i == y || ((Region.before ops).toList.getD i 0).testBit x))
theorem C4 {mk : Nat→SM} {x y : Nat} {π1 π2 : List Nat} {Q : Exit→Act→World→Prop} {K : Env→AS→Prop} (ie : yH ops mk x y π1 π2 = true) :
    ∀ (fuel : Nat) (listed : Array Bool) {G : Gh} {E : Env} {s : AS} {a : Act} {w : World},listed.size = ops.size→(left ops listed).length≤fuel →
      (∀ (i : Nat) (o : Oper),ops[i]? = some o→listed.getD i true = true→∀ e ∈ o.after.toList,Region.binds .any e = true→listed.getD e.on false = true) →
      ((listed.getD x true = false∧listed.getD y true = false∧jt P Γ N ops ((sD π1 listed).map (fp ops mk)) K E s∧jt P Γ N ops ((sD π2 listed).map (fp ops mk)) K E s) ∨
        ∃ π u v,uU ops (Region.before ops).toList mk u v π = true∧listed.getD u true = true∧jt P Γ N ops ((sD π listed).map (fp ops mk)) K E s)→Rel Γ N G E s a w →
      (∀ G' E' s' a' w',G.le G'→Rel Γ N G' E' s' a' w'→K E' s'→Q .normal a' w')→wpAnyIn (sO rd) 0 P .any ops Q fuel listed a w:=by
  simp only [yH,Bool.and_eq_true,Bool.or_eq_true,decide_eq_true_eq] at ie
  obtain ⟨⟨uz,Rz⟩,L4⟩:=ie
  simp only [uU,Bool.and_eq_true] at Rz
  have cW : ∀ (listed : Array Bool),listed.size = ops.size→∀ {π : List Nat},Region.ready .any ops listed = []→sD π listed = []:=by
    intro listed eI π h
    have h1:=Kc uz h
    unfold sD
    rw [List.filter_eq_nil_iff]
    intro i _ hi
    have bc : listed.getD i true = false:=by simpa using hi
    have bS : i < ops.size:=by
      rw [← eI]
      rcases Nat.lt_or_ge i listed.size with q | q
      · exact q
      · simp [Array.getElem?_eq_none q] at bc
    have : i ∈ left ops listed:=mem_left.2 ⟨bS,bc⟩
    rw [h1] at this
    cases this
  have yI : ∀ (listed : Array Bool) {E : Env} {s : AS},listed.size = ops.size→Region.ready .any ops listed = [] →
      ((listed.getD x true = false∧listed.getD y true = false∧jt P Γ N ops ((sD π1 listed).map (fp ops mk)) K E s∧jt P Γ N ops ((sD π2 listed).map (fp ops mk)) K E s) ∨
        ∃ π u v,uU ops (Region.before ops).toList mk u v π = true∧listed.getD u true = true∧jt P Γ N ops ((sD π listed).map (fp ops mk)) K E s)→K E s:=by
    rintro listed E s eI h (⟨_,_,h1,_⟩ | ⟨π,_,_,_,_,h1⟩)
    · rwa [cW listed eI h] at h1
    · rwa [cW listed eI h] at h1
  intro fuel
  induction fuel with
  | zero =>
    intro listed G E s a w eI hlen gy h1 hr hq
    have hl : left ops listed = []:=List.eq_nil_of_length_eq_zero (by omega)
    have gl : Region.ready .any ops listed = []:=by
      cases Pl : Region.ready .any ops listed with
      | nil=>rfl
      | cons i L =>
        exfalso
        have : i ∈ Region.ready .any ops listed:=by rw [Pl]; simp
        rw [mem_ready] at this
        obtain ⟨h0,o,ho,_⟩:=this
        have : i ∈ left ops listed:=mem_left.2 ⟨(Array.getElem?_eq_some_iff.1 ho).1,h0⟩
        rw [hl] at this
        cases this
    exact ⟨gl,hq G E s a w (.refl G) hr (yI listed eI gl h1)⟩
  | succ fuel ih =>
    intro listed G E s a w eI hlen gy hI hr hq
    refine ⟨fun gl=>hq G E s a w (.refl G) hr (yI listed eI gl hI),fun i hi=>?_⟩
    obtain ⟨h0,o,ho,cu⟩:=mem_ready.1 hi
    have uA : i < ops.size:=(Array.getElem?_eq_some_iff.1 ho).1
    obtain ⟨M1,M2,q1,q2,_⟩:=sU eI uA h0
    have nN : ∀ (j : Nat) (oj : Oper),ops[j]? = some oj→(∀ e ∈ oj.after.toList,Region.binds .any e = true→listed.getD e.on false = true)→∀ l,((Region.before ops).toList.getD j 0).testBit l = true→listed.getD l false = true:=by
      intro j
      induction j using Nat.strongRecOn with
      | _ j S1 =>
        intro oj uB hj l hl
        obtain ⟨d1,d2⟩:=fG uz uB
        obtain ⟨e,he,hb,h1⟩:=d1 l hl
        have wQ:=hj e he hb
        rcases h1 with rfl | h1
        · exact wQ
        · have bS:=d2 e he hb
          have S4 : e.on < ops.size:=by
            have:=(Array.getElem?_eq_some_iff.1 uB).1
            omega
          have xZ : ops[e.on]? = some ops[e.on]:=by simp [S4]
          refine S1 e.on bS _ xZ (gy e.on _ xZ ?_) l h1
          have : e.on < listed.size:=by omega
          simpa [this] using wQ
    have hnb : ∀ z,listed.getD z true = false→((Region.before ops).toList.getD i 0).testBit z = true→False:=by
      intro z hz hb
      have h3:=nN i o ho (fun e he hb=>cu e (by simpa using he) hb) z hb
      rcases Nat.lt_or_ge z listed.size with q | q
      · simp [q] at h3 hz
        rw [hz] at h3; cases h3
      · simp [Array.getElem?_eq_none q] at h3
    have cg : ∀ z,(listed.setIfInBounds i true).getD z true = if z = i then true else listed.getD z true:=by
      intro z
      simp only [Array.getD_eq_getD_getElem?]
      by_cases e : z = i
      · subst e; rw [if_pos rfl]; simp [eI,uA]
      · rw [if_neg e,Array.getElem?_setIfInBounds_ne (by omega)]
    have wc : ∀ {G' : Gh} {E' : Env} {s' : AS} {a' : Act} {w' : World},G.le G' →
        (((listed.setIfInBounds i true).getD x true = false∧(listed.setIfInBounds i true).getD y true = false∧jt P Γ N ops ((sD π1 (listed.setIfInBounds i true)).map (fp ops mk)) K E' s'∧jt P Γ N ops ((sD π2 (listed.setIfInBounds i true)).map (fp ops mk)) K E' s') ∨
          ∃ π u v,uU ops (Region.before ops).toList mk u v π = true∧(listed.setIfInBounds i true).getD u true = true∧jt P Γ N ops ((sD π (listed.setIfInBounds i true)).map (fp ops mk)) K E' s')→Rel Γ N G' E' s' a' w'→wpAnyIn (sO rd) 0 P .any ops Q fuel (listed.setIfInBounds i true) a' w':=by
      intro G' E' s' a' w' hle g1 uy
      refine ih (listed.setIfInBounds i true) (by simpa using eI) ?_ ?_ g1 uy (fun sA gB fD xV ux k1 k2 k3=>hq sA gB fD xV ux (hle.trans k1) k2 k3)
      · rw [q2]
        rw [q1] at hlen
        simp at hlen ⊢
        omega
      · intro j oj uB hj e he hb
        by_cases Ev : j = i
        · subst Ev
          rw [ho] at uB; cases uB
          exact getD_set_true (cu e (by simpa using he) hb)
        · rw [getD_set_ne true (Ne.symm Ev)] at hj
          exact getD_set_true (gy j oj uB hj e he hb)
    have gk : fp ops mk i = (o,mk i):=by simp [fp,ho]
    -- a list, with the place i taken out of it
    have lY : ∀ {π : List Nat} {u v : Nat},uU ops (Region.before ops).toList mk u v π = true→(v≠i∨listed.getD u true = true)→∃ L1 L2,sD π listed = L1 ++ i :: L2∧sD π (listed.setIfInBounds i true) = L1 ++ L2 ∧
        ∀ z ∈ L1.map (fp ops mk),dL ops z.1 o∧z.2.free (mk i) = true:=by
      intro π u v hπ hv
      simp only [uU,Bool.and_eq_true,List.all_eq_true] at hπ
      have him : i ∈ π:=by
        have:=hπ.1.2 i (by simpa using uA)
        simpa using this
      obtain ⟨L1,L2,w1,w2,w3⟩:=II (R:=okS ops (Region.before ops).toList mk u v) (by omega) h0 hπ.1.1 him
      refine ⟨L1,L2,w1,w2,fun z hz=>?_⟩
      obtain ⟨j,hj,rfl⟩:=List.mem_map.1 hz
      obtain ⟨j1,j2,j3⟩:=w3 j hj
      rcases L0 ho j1 with k | k | ⟨k1,k2⟩
      · exact (hnb j j3 k).elim
      · exact k
      · rcases hv with hv | hv
        · exact absurd k2.symm hv
        · rw [k1,hv] at j3; cases j3
    have Hm : uU ops (Region.before ops).toList mk x y π1 = true:=by simp only [uU,Bool.and_eq_true]; exact Rz
    -- the place i taken first, in one list
    have eN : ∀ {π : List Nat} {u v : Nat},uU ops (Region.before ops).toList mk u v π = true→(v≠i∨listed.getD u true = true)→jt P Γ N ops ((sD π listed).map (fp ops mk)) K E s →
        AX P Γ N ops [o] (jt P Γ N ops ((sD π (listed.setIfInBounds i true)).map (fp ops mk)) K) E s ∧
        ((mk i).cc = false→(∀ d,o.dst = some d→d < N)∧∃ v,SV P Γ ops (mk i) o E s v∧jt P Γ N ops ((sD π (listed.setIfInBounds i true)).map (fp ops mk)) K (bg E o.dst v) s):=by
      intro π u v hπ hv h
      obtain ⟨L1,L2,w1,w2,w3⟩:=lY hπ hv
      rw [w1,List.map_append,List.map_cons,gk] at h
      rw [w2,List.map_append]
      cases hf : (mk i).cc with
      | false =>
        obtain ⟨hd,v,hv⟩:=Fc hf _ w3 h hr
        have h1:=mN hf _ w3 hv h
        refine ⟨C3 (m:=mk i) ?_,fun _=>⟨hd,v,hv,h1⟩⟩
        simp only [jt,hf,Bool.false_eq_true,if_false]
        exact ⟨hd,v,hv,h1⟩
      | true =>
        have Tm : mk i = .sB:=by
          cases hm : mk i with
          | sB=>rfl
          | val=>rw [hm] at hf; cases hf
          | Gu u=>rw [hm] at hf; cases hf
          | all u=>rw [hm] at hf; cases hf
        rw [Tm] at h w3
        exact ⟨rh _ w3 h,fun e=>by cases e⟩
    rcases hI with ⟨hx,hy,r1,r2⟩ | ⟨π,u,v,hπ,hu,r1⟩
    · have S5 : ¬ ops.size≤x:=by
        intro q
        rw [Array.getD_eq_getD_getElem?,Array.getElem?_eq_none (by omega)] at hx
        cases hx
      rcases L4 with q | q
      · exact absurd q S5
      simp only [Bool.and_eq_true,bne_iff_ne,List.all_eq_true,decide_eq_true_eq] at q
      obtain ⟨⟨⟨⟨⟨⟨o2,Wg⟩,ex⟩,ey⟩,_⟩,_⟩,mG⟩:=q
      by_cases ix : i = x
      · subst ix
        exact fW (L:=[]) ho (eN Hm (.inl (Ne.symm Wg)) r1).1 hr fun G' E' s' a' w' k1 k2 k3=>wc k1 (.inr ⟨π1,i,y,Hm,by rw [cg,if_pos rfl],k3⟩) k2
      by_cases iy : i = y
      · subst iy
        exact fW (L:=[]) ho (eN o2 (.inl Wg) r2).1 hr fun G' E' s' a' w' k1 k2 k3=>wc k1 (.inr ⟨π2,i,x,o2,by rw [cg,if_pos rfl],k3⟩) k2
      cases hf : (mk i).cc with
      | true =>
        have:=mG i (by simpa using uA)
        simp only [hf,Bool.not_true,Bool.false_or,Bool.or_eq_true,beq_iff_eq] at this
        rcases this with (k | k) | k
        · exact absurd k ix
        · exact absurd k iy
        · exact (hnb x hx k).elim
      | false =>
        obtain ⟨hd,v1,hv1,g1⟩:=(eN Hm (.inl (Ne.symm iy)) r1).2 hf
        obtain ⟨_,v2,hv2,g2⟩:=(eN o2 (.inl (Ne.symm ix)) r2).2 hf
        obtain rfl:=BP hv1 hv2
        have hX : jt P Γ N ops [(o,mk i)] (fun E' s'=>jt P Γ N ops ((sD π1 (listed.setIfInBounds i true)).map (fp ops mk)) K E' s'∧jt P Γ N ops ((sD π2 (listed.setIfInBounds i true)).map (fp ops mk)) K E' s') E s:=by
          simp only [jt,hf,Bool.false_eq_true,if_false]
          exact ⟨hd,v1,hv1,g1,g2⟩
        exact fW (L:=[]) ho (C3 hX) hr fun G' E' s' a' w' k1 k2 k3=>wc k1 (.inl ⟨by rw [cg,if_neg (Ne.symm ix)]; exact hx,by rw [cg,if_neg (Ne.symm iy)]; exact hy,k3.1,k3.2⟩) k2
    · exact fW (L:=[]) ho (eN hπ (.inr hu) r1).1 hr fun G' E' s' a' w' k1 k2 k3=>wc k1 (.inr ⟨π,u,v,hπ,by rw [cg]; split; rfl; exact hu,k3⟩) k2
theorem tv {E : Env} {Q : Exit→Env→AS→Prop} (hm : P.follows .mixedOrders = true) {mk : Nat→SM} {x y : Nat} {π1 π2 : List Nat} {id : Nat} (ie : yH ops mk x y π1 π2 = true)
    (h1 : jt P Γ N ops (π1.map (fp ops mk)) (fun E' s'=>Q .normal E' s') E s) (h2 : x < ops.size→jt P Γ N ops (π2.map (fp ops mk)) (fun E' s'=>Q .normal E' s') E s) : ck P Γ N (.region id ops true) Q E s:=by
  intro G a w hr;refine wpIn_region_any hm ?_;have uy : Rel Γ N G E s a w.drew:=⟨hr.st.drew,hr.size,hr.tmps,hr.defers⟩;have gn : ∀ i,(Array.replicate ops.size false).getD i true = decide (ops.size≤i):=by
    intro i;rw [Array.getD_eq_getD_getElem?,Array.getElem?_replicate];by_cases h : i < ops.size
    · rw [if_pos h,decide_eq_false (by omega)]; rfl
    · rw [if_neg h,decide_eq_true (by omega)]; rfl
  have hlen : (left ops (Array.replicate ops.size false)).length≤ops.size:=by
    unfold left;exact Nat.le_trans (List.length_filter_le _ _) (by simp)
  have xcN:=ie;simp only [yH,Bool.and_eq_true,Bool.or_eq_true,decide_eq_true_eq,uU,List.all_eq_true] at ie;obtain ⟨⟨_,hp1⟩,L4⟩:=ie;have key : ∀ {π : List Nat},(∀ i ∈ π,i < ops.size)→jt P Γ N ops (π.map (fp ops mk)) (fun E' s'=>Q .normal E' s') E s →
      jt P Γ N ops ((sD π (Array.replicate ops.size false)).map (fp ops mk)) (fun E' s'=>Q .normal E' s'∧∀ i,i ∉ bU ops.toList→E' i = E i) E s:=by
    intro π bS h;have e : sD π (Array.replicate ops.size false) = π:=by
      unfold sD;rw [List.filter_eq_self];intro i hi;have:=bS i hi;rw [gn,decide_eq_false (by omega)];rfl
    rw [e];refine pL _ (fun E' s' k=>⟨k.1,fun i hi=>k.2 i fun hm=>hi ?_⟩) (uT _ h);simp only [bU,List.mem_filterMap,List.mem_map] at hm ⊢;obtain ⟨o,⟨_,⟨j,hj,rfl⟩,rfl⟩,hd⟩:=hm;have Eo:=bS j hj;refine ⟨_,?_,hd⟩;simp [fp,Eo]
  refine C4 (K:=fun E' s'=>Q .normal E' s'∧∀ i,i ∉ bU ops.toList→E' i = E i) xcN ops.size (Array.replicate ops.size false) (by simp) hlen ?_ ?_ uy ?_
  · intro i o ho hl;have : i < ops.size:=(Array.getElem?_eq_some_iff.1 ho).1;simp [this] at hl
  · by_cases hx : ops.size≤x
    · exact .inr ⟨π1,x,y,by simp only [uU,Bool.and_eq_true,List.all_eq_true,decide_eq_true_eq]; exact hp1,by rw [gn,decide_eq_true hx],key hp1.2 h1⟩
    · rcases L4 with q | q
      · exact absurd q hx
      obtain ⟨⟨⟨⟨⟨⟨pM,_⟩,_⟩,_⟩,_⟩,hy⟩,_⟩:=q;exact .inl ⟨by rw [gn,decide_eq_false hx],by rw [gn,decide_eq_false (by omega)],key hp1.2 h1,key pM.2 (h2 (by omega))⟩
  · intro G' E' s' a' w' k1 k2 k3;exact ⟨G',E',s',k1,k2,k3.1,fun i hi=>k3.2 i hi⟩
def mkS (fl : List Nat) (gv : List (Nat × AV)) (i : Nat) : SM:=if fl.contains i = true then .sB else match ka gv i with | some v=>.Gu v | none=>match ka gv (i + 1000) with | some v=>.all v | none=>.val
def BQ (P : Program) (Γ : Nat→List AV) (N : Nat) (ops : Array Oper) (o : Oper) (s : AS) (v : AV) (C : Env→Prop) (E : Env) : Prop:=(∀ d,o.dst = some d→d < N)∧Hl P Γ ops o E s v∧C (bg E o.dst v)
def Hn (P : Program) (Γ : Nat→List AV) (k : FuncId) (xs : List AV) (s : AS) (v : AV) (c : Prop) : Prop:=ah P Γ k xs s (fun r s'=>r = v∧s' = s)∧c
theorem Fe {k : FuncId} {xs : List AV} {v : AV} {c : Prop} (h : ah P Γ k xs s (fun r s'=>r = v∧s' = s)) (hc : c) : Hn P Γ k xs s v c:=⟨h,hc⟩
theorem gS {dst : Option Tmp} {k : FuncId} {args : Array Operand} {aT : Array TypeId} {ty : TypeId} {pos : String} {after : Array Edge} {gd : Option (Nat × Bool)} {v : AV} {C : Env→Prop} {E : Env} :
    BQ P Γ N ops { dst:=dst,op:=.call { callee:=.value (.func k),args:=args,argTypes:=aT },type:=ty,pos:=pos,after:=after,guard:=gd } s v C E =
      ((∀ d,dst = some d→d < N)∧mK ops { dst:=dst,op:=.call { callee:=.value (.func k),args:=args,argTypes:=aT },type:=ty,pos:=pos,after:=after,guard:=gd } E∧af P k = true∧Hn P Γ k (args.toList.map (aI Γ E)) s v (C (bg E dst v))):=by
  apply propext;simp only [BQ,Hl,Hn,bX,cE,cY,aI];constructor
  · rintro ⟨h1,⟨h2,h3⟩,h4⟩;exact ⟨h1,h2,h3.2.2.1,h3.2.2.2,h4⟩
  · rintro ⟨h1,h2,h3,h4,h5⟩;exact ⟨h1,⟨h2,rfl,rfl,h3,h4⟩,h5⟩
theorem gT {dst : Option Tmp} {T : TypeId} {x : Operand} {ty : TypeId} {pos : String} {after : Array Edge} {gd : Option (Nat × Bool)} {v : AV} {C : Env→Prop} {E : Env} :
    BQ P Γ N ops { dst:=dst,op:=.load T x,type:=ty,pos:=pos,after:=after,guard:=gd } s v C E =
      ((∀ d,dst = some d→d < N)∧mK ops { dst:=dst,op:=.load T x,type:=ty,pos:=pos,after:=after,guard:=gd } E∧bX P Γ (aI Γ E) s (fun r s'=>r = v∧s' = s) (.load T x)∧C (bg E dst v)):=by
  apply propext;simp only [BQ,Hl,and_assoc]
def IJ (P : Program) (Γ : Nat→List AV) (N : Nat) (ops : Array Oper) (o : Oper) (v : AV) (C : Env→Prop) (E : Env) : Prop:=(∀ d,o.dst = some d→d < N)∧(∀ s,Hl P Γ ops o E s v)∧C (bg E o.dst v)
def Ho (P : Program) (Γ : Nat→List AV) (k : FuncId) (xs : List AV) (v : AV) (c : Prop) : Prop:=(∀ s,ah P Γ k xs s (fun r s'=>r = v∧s' = s))∧c
theorem IK {k : FuncId} {xs : List AV} {v : AV} {c : Prop} (h : ∀ s,ah P Γ k xs s (fun r s'=>r = v∧s' = s)) (hc : c) : Ho P Γ k xs v c:=⟨h,hc⟩
theorem gU {dst : Option Tmp} {k : FuncId} {args : Array Operand} {aT : Array TypeId} {ty : TypeId} {pos : String} {after : Array Edge} {gd : Option (Nat × Bool)} {v : AV} {C : Env→Prop} {E : Env} :
    IJ P Γ N ops { dst:=dst,op:=.call { callee:=.value (.func k),args:=args,argTypes:=aT },type:=ty,pos:=pos,after:=after,guard:=gd } v C E =
      ((∀ d,dst = some d→d < N)∧mK ops { dst:=dst,op:=.call { callee:=.value (.func k),args:=args,argTypes:=aT },type:=ty,pos:=pos,after:=after,guard:=gd } E∧af P k = true∧Ho P Γ k (args.toList.map (aI Γ E)) v (C (bg E dst v))):=by
  apply propext;simp only [IJ,Hl,Ho,bX,cE,cY,aI];constructor
  · rintro ⟨h1,h2,h4⟩;exact ⟨h1,(h2 ⟨fun _=>none,fun _=>none⟩).1,(h2 ⟨fun _=>none,fun _=>none⟩).2.2.2.1,fun s=>(h2 s).2.2.2.2,h4⟩
  · rintro ⟨h1,h2,h3,h4,h5⟩;exact ⟨h1,fun s=>⟨h2,rfl,rfl,h3,h4 s⟩,h5⟩
def Ff (P : Program) (Γ : Nat→List AV) (N : Nat) (L : List Oper) (fl : List Nat) (gv : List (Nat × AV)) : List Nat→(Env→AS→Prop)→Env→AS→Prop
  | [],K,E,s=>K E s
  | i :: π,K,E,s =>
    if fl.contains i = true then AX P Γ N L.toArray [L.getD i default] (Ff P Γ N L fl gv π K) E s
    else match ka gv i with
      | some v=>BQ P Γ N L.toArray (L.getD i default) s v (fun E=>Ff P Γ N L fl gv π K E s) E
      | none=>match ka gv (i + 1000) with
      | some v=>IJ P Γ N L.toArray (L.getD i default) v (fun E=>Ff P Γ N L fl gv π K E s) E
      | none=>((∀ d,(L.getD i default).dst = some d→d < N)∧match bL P Γ L.toArray (L.getD i default) E with | some v=>Ff P Γ N L fl gv π K (bg E (L.getD i default).dst v) s | none=>False)
theorem L5 : ∃ f : Program→(Nat→List AV)→Nat→List Oper→List Nat→List (Nat × AV)→List Nat→(Env→AS→Prop)→Env→AS→Prop,f = Ff:=⟨_,rfl⟩
noncomputable def RA : Program→(Nat→List AV)→Nat→List Oper→List Nat→List (Nat × AV)→List Nat→(Env→AS→Prop)→Env→AS→Prop:=Classical.choose L5
theorem axw : RA = Ff:=Classical.choose_spec L5
theorem nU {L : List Oper} {fl : List Nat} {gv : List (Nat × AV)} {K : Env→AS→Prop} {E : Env} : RA P Γ N L fl gv [] K E s = K E s:=by rw [axw]; rfl
theorem lG {L : List Oper} {fl : List Nat} {gv : List (Nat × AV)} {i : Nat} {π : List Nat} {K : Env→AS→Prop} {E : Env} : RA P Γ N L fl gv (i :: π) K E s =
    if fl.contains i = true then AY P Γ N L.toArray [L.getD i default] (RA P Γ N L fl gv π K) E s
    else match ka gv i with
      | some v=>BQ P Γ N L.toArray (L.getD i default) s v (fun E=>RA P Γ N L fl gv π K E s) E
      | none=>match ka gv (i + 1000) with
      | some v=>IJ P Γ N L.toArray (L.getD i default) v (fun E=>RA P Γ N L fl gv π K E s) E
      | none=>((∀ d,(L.getD i default).dst = some d→d < N)∧match bL P Γ L.toArray (L.getD i default) E with | some v=>RA P Γ N L fl gv π K (bg E (L.getD i default).dst v) s | none=>False):=by rw [axw,ay]; rfl
theorem Fg {L : List Oper} {fl : List Nat} {gv : List (Nat × AV)} {K : Env→AS→Prop} : ∀ (π : List Nat) {E : Env} {s : AS},Ff P Γ N L fl gv π K E s→jt P Γ N L.toArray (π.map (fp L.toArray (mkS fl gv))) K E s
  | [],E,s,h=>h
  | i :: π,E,s,h=>by
    have ho : (L.toArray[i]?).getD default = L.getD i default:=(by simp [List.getD]);simp only [Ff] at h;simp only [List.map_cons,jt,fp,ho,mkS];cases hf : fl.contains i with
    | true =>
      rw [hf] at h;simp only [if_true,SM.cc] at h ⊢;exact cf _ (fun E' s' hE=>Fg π hE) h
    | false =>
      rw [hf] at h;simp only [Bool.false_eq_true,if_false] at h ⊢;cases hg : ka gv i with
      | some v =>
        rw [hg] at h;simp only [SM.cc,Bool.false_eq_true,if_false];obtain ⟨h1,h2,h3⟩:=h;exact ⟨h1,v,⟨rfl,h2⟩,Fg π h3⟩
      | none =>
        rw [hg] at h;cases PE : ka gv (i + 1000) with
        | some v =>
          rw [PE] at h;simp only [PE,SM.cc,Bool.false_eq_true,if_false];obtain ⟨h1,h2,h3⟩:=h;exact ⟨h1,v,⟨rfl,h2⟩,Fg π h3⟩
        | none =>
          rw [PE] at h;simp only [PE,SM.cc,Bool.false_eq_true,if_false];refine ⟨h.1,?_⟩;have h:=h.2;split at h
          · rename_i v hv;exact ⟨v,hv,Fg π h⟩
          · exact h.elim
theorem kc {E : Env} {Q : Exit→Env→AS→Prop} (hm : P.follows .mixedOrders = true) (fl : List Nat) (gv : List (Nat × AV)) (π : List Nat) {id : Nat} {L : List Oper} {y : Code} (ie : yH L.toArray (mkS fl gv) L.length 0 π [] = true)
    (h : ∀ K : Env→AS→Prop,(∀ E s,ck P Γ N y Q E s→K E s)→RA P Γ N L fl gv π K E s) : ck P Γ N (.seq (.region id L.toArray true) y) Q E s:=by
  refine jq (tv hm ie (Fg π ?_) (fun q=>absurd q (by simp)));have:=h _ (fun _ _ h=>h);rwa [axw] at this
end Go.AM
