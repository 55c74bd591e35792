/- An abstract machine for the model and the rules of its walk, each proved sound over the model; no condition. -/
import Derived.Test.YtbiefppedlodiaaGreatDoorAMp6
import Derived.Shelf.Spec.SlicesInsertGrow
set_option linter.unusedSimpArgs false
set_option linter.unusedVariables false
namespace Go.AM
open Go Go.RowKit
variable {P : Program} {Γ : Nat→List AV} {G : Gh} {s : AS} {w : World} {N : Nat}
theorem tr (need old : Nat) (e : TypeId) (x : Nat) (h : need < 2 ^ 63) : (Question.appendCap need old e).cut x < 2 ^ 63:=by
  have bI:=Nat.mod_lt x (show 0 < 2 ^ 63 - need by omega);simp only [Question.cut];omega
theorem tu {m : Nat} {u : Value} (et : ∀ w',(Builtin.lenOf u).run P w' = .ok m w') {T xT e : TypeId} (hT : P.underlying T = some (.slice e)) (hx : jY P (some xT) = true)
    {z : List AV} (he : ou P e z)
    {base : Option Addr} {n cap : Nat} {olds news : List Value} (hold : ∀ w',(∀ b j,w'.cell? ⟨b,j,none⟩ = w.cell? ⟨b,j,none⟩)→(Builtin.firstCells (P.cellsOf e) n (.slice base n cap)).run P w' = .ok olds.toArray w')
    (kE : ∀ w',(∀ b j,w'.cell? ⟨b,j,none⟩ = w.cell? ⟨b,j,none⟩)→(Builtin.firstCells (P.cellsOf e) m u).run P w' = .ok news.toArray w')
    (hg : cap < n + m) (cL : (n + m) * P.bytesOf e≤2 ^ 46) (CJ : n + m≤2 ^ 46) (ty : TypeId) :
    ∃ (j9 : Nat) (rest : List Value),n + m≤j9∧j9 < 2 ^ 63∧rest.length = (j9 - (n + m)) * P.cellsOf e ∧
      (Builtin.append_ #[T,xT] ty #[.slice base n cap,u]).run P w = .ok (.slice (some ⟨w.heap.size,0,none⟩) (n + m) j9) (w.drew.alloc (.cells ((olds ++ news) ++ rest).toArray e)):=by
  obtain ⟨hz,eL,rD⟩:=he;obtain ⟨zv,IE,uA⟩:=dr hz;obtain ⟨i,hi⟩:=eK eL;have hb : P.bytesOf e = i.bytes:=(by simp [Program.bytesOf,hi]);have Gd : ∀ w',(typeInfo e).run P w' = .ok i w':=(fun w'=>by simp [typeInfo,hi]);have Qz : ¬ (n + m≤cap):=(by omega);have mO : ¬ (9223372036854775807 < (n : Int) + (m : Int)):=(by omega);have td:=nextslicecap_le (need:=n + m) (old:=cap) hg;have mP : ¬ (2 ^ 48 < Builtin.nextslicecap (n + m) cap * i.bytes):=by
    rw [hb] at cL;have h2 : Builtin.nextslicecap (n + m) cap * i.bytes≤2 * (n + m) * i.bytes:=Nat.mul_le_mul_right _ td;rw [Nat.mul_assoc] at h2;omega
  have rD : zv.cells.size = P.cellsOf e:=by
    rw [uA] at rD;simpa using rD
  have zL:=hold w.drew (fun b j=>rfl);have ZP:=kE w.drew (fun b j=>rfl);refine ⟨_,(Builtin.zeroCells zv.cells ((Question.appendCap (n + m) cap e).cut (w.tape w.drawn (.appendCap (n + m) cap e)) - (n + m))).toList,eM (n + m) cap e (w.tape w.drawn (.appendCap (n + m) cap e)),tr (n + m) cap e (w.tape w.drawn (.appendCap (n + m) cap e)) (by omega),?_,?_⟩
  · simp [Builtin.zeroCells,rD]
  · have hf : (Question.appendCap (n + m) cap e).forced = false:=rfl;rcases mN hx with ⟨e',hx⟩ | hx;all_goals
      simp [Builtin.append_,run_underlying hT,aR eL,run_underlying hx,et,Qz,Gd,mO,mP,hf,zL,ZP,IE,newRow];congr 2;apply Array.ext';simp [List.append_assoc]
def mn (sz : Nat) (s : AS) (x : AV) (n : Nat) (cs : List AV) : Prop :=
  (n = 0∧cs = []∧(x = bO∨x = .sl sz 0 [] .full∨x = .sl sz 0 [] .new)) ∨
    ∃ o cap rest,x = .iv o 0 sz n cap∧s.av o = some (cs ++ rest)∧cs.length = n * sz∧rest.length = (cap - n) * sz∧n≤cap∧cap < 2 ^ 63
theorem oI : ∀ (ds cs rest : List AV),ds.length≤rest.length→bm (cs ++ rest) cs.length ds = cs ++ ds ++ rest.drop ds.length
  | [],cs,rest,_=>by simp [bm]
  | d :: ds,cs,rest,h=>by
    cases rest with
    | nil=>simp at h
    | cons r rest =>
      simp only [bm];have e : (cs ++ r :: rest).set cs.length d = (cs ++ [d]) ++ rest:=(by simp);have:=oI ds (cs ++ [d]) rest (by simpa using h);rw [List.length_append,List.length_singleton] at this;rw [e,this];simp
theorem tv {x y : AV} {u v : Value} {m n : Nat} {cs ds : List AV} {T xT e : TypeId} {z : List AV} (hT : P.underlying T = some (.slice e)) (hx : jY P (some xT) = true) (he : ou P e z)
    (et : im (P.cellsOf e) s y = some (m,ds)) (hm : m≠0) (h1 : (n + m) * P.bytesOf e≤2 ^ 46) (h2 : n + m≤2 ^ 46) (ln : ds.all AV.one = true) (hb : mn (P.cellsOf e) s x n cs)
    (og : au G x u) (vm : au G y v) (hs : aN Γ G s w) (ty : TypeId) :
    ∃ G' r w' o cap rest,(Builtin.append_ #[T,xT] ty #[u,v]).run P w = .ok r w'∧G.le G'∧n + m≤cap∧cap < 2 ^ 63∧rest.length = (cap - (n + m)) * P.cellsOf e∧(s.av o = none∨∃ qH,x = .iv o 0 (P.cellsOf e) n qH) ∧
      aN Γ G' (s.set o (cs ++ ds ++ rest)) w'∧au G' (.iv o 0 (P.cellsOf e) (n + m) cap) r:=by
  obtain ⟨us,hv,hlen,iH,eZ⟩:=qx (P:=P) et vm hs;have zM:=hv.length;have grow : ∀ (base : Option Addr) (cap : Nat) (vs : List Value),aq G cs vs→cap < n + m →
      (∀ w',(∀ b j,w'.cell? ⟨b,j,none⟩ = w.cell? ⟨b,j,none⟩)→(Builtin.firstCells (P.cellsOf e) n (.slice base n cap)).run P w' = .ok vs.toArray w') →
      ∃ G' r w' o j9 rest,(Builtin.append_ #[T,xT] ty #[.slice base n cap,v]).run P w = .ok r w'∧G.le G'∧n + m≤j9∧j9 < 2 ^ 63∧rest.length = (j9 - (n + m)) * P.cellsOf e∧(s.av o = none∨∃ qH,x = .iv o 0 (P.cellsOf e) n qH) ∧
        aN Γ G' (s.set o (cs ++ ds ++ rest)) w'∧au G' (.iv o 0 (P.cellsOf e) (n + m) j9) r:=by
    intro base cap vs Er bI hold;obtain ⟨j9,rest,vP,YK,yE,kD⟩:=tu (P:=P) (w:=w) iH hT hx he (base:=base) (n:=n) (cap:=cap) (olds:=vs) (news:=us) hold eZ bI h1 h2 ty;obtain ⟨o,k1,k2,k3,k4⟩:=hs.drew.newObj (cs:=(cs ++ ds) ++ rest.map .v) (vs:=(vs ++ us) ++ rest) ((Er.append hv).append (aq.Cy rest)) e;refine ⟨_,_,_,o,j9,rest.map .v,kD,k2,vP,YK,by simpa using yE,.inl k1,k3,?_⟩;simp only [au];exact ⟨_,k4,rfl,vP⟩
  rcases hb with ⟨rfl,rfl,rfl | rfl | rfl⟩ | ⟨o,cap,rest,rfl,ho,eV,tw,_,CJ⟩
  · simp only [bO,au] at og;subst og;exact grow none 0 [] (by simp [aq]) (by omega) (fun w' _=>run_firstCells_none w' _ _ _ _)
  · simp only [au] at og;rcases og with ⟨b,off,cap,vs,rfl,hl,_,EJ,pn,qv⟩ | ⟨_,_,a,cap,rfl,wv⟩ | ⟨_,_,h,_⟩
    · simp only [dY] at qv;subst qv;exact grow _ 0 [] (by simp [aq]) (by omega) (fun w' _=>run_firstCells_some w' _ _ _ _ _ [] (by simp) (by simp))
    · rcases wv with h | h | ⟨_,rfl⟩
      · cases h
      · cases h
      · exact grow _ 0 [] (by simp [aq]) (by omega) (fun w' _=>run_firstCells_some w' _ _ _ _ _ [] (by simp) (by simp))
    · cases h
  · simp only [au] at og;rcases og with ⟨b,off,cap,vs,rfl,hl,_,EJ,pn,qv⟩ | ⟨_,_,a,cap,rfl,wv⟩ | ⟨_,_,h,_⟩
    · simp only [dY] at qv;obtain ⟨rfl,_⟩:=qv;exact grow _ 0 [] (by simp [aq]) (by omega) (fun w' _=>run_firstCells_some w' _ _ _ _ _ [] (by simp) (by simp))
    · rcases wv with h | h | ⟨h,_⟩ <;> cases h
    · cases h
  · have Mw:=og;simp only [au] at og;obtain ⟨b,Dj,rfl,A9⟩:=og;obtain ⟨b',vs,q1,q2,q3,q4⟩:=hs.av o _ ho;rw [Dj] at q1;cases q1;have OW:=q2.length;have Er:=q2.take cs.length;rw [List.take_left] at Er;have EC:=Er.length;rcases Nat.lt_or_ge cap (n + m) with bI | cz
    · refine grow _ cap (vs.take cs.length) Er bI (fun w' Qy=>?_);refine run_firstCells_some w' _ _ _ _ _ _ (by omega) (fun j x hj=>?_);rw [cr,Qy];rw [List.getElem?_take] at hj;split at hj
      · rw [Nat.zero_add]; exact (q4 j x hj).1
      · cases hj
    · have MR : m * P.cellsOf e≤(cap - n) * P.cellsOf e:=Nat.mul_le_mul_right _ (by omega);have IZ : cs.length + ds.length≤(cs ++ rest).length:=(by rw [List.length_append,tw,zM,hlen]; omega);obtain ⟨f1,f2,f3⟩:=kc hs ho Dj (off:=cs.length) IZ hv;rw [oI ds cs rest (by rw [zM,hlen,tw]; exact MR)] at f3;rw [eV] at f1 f2 f3;have kD:=pO (P:=P) (w:=w) (n:=n) (m:=m) (cap:=cap) (off:=0) (b:=b) iH hT hx he.2.1 (eZ w (fun _ _=>rfl)) (by rw [Nat.zero_add]; exact f1) (by rw [Nat.zero_add]; exact f2) (kF hv ln) cz ty;rw [Nat.zero_add] at kD;refine ⟨G,_,_,o,cap,_,kD,.refl G,cz,CJ,?_,.inr ⟨cap,rfl⟩,f3,?_⟩
      · rw [List.length_drop,tw,zM,hlen,← Nat.sub_mul,Nat.sub_sub]
      · simp only [au];exact ⟨b,Dj,rfl,cz⟩
theorem kO {ρ : Operand→AV} {ρ' : Operand→Value} {o : Oper} {x y : Operand} {m n : Nat} {cs ds : List AV} {T xT e : TypeId} {z : List AV} (ho : o.op = .call { callee:=.builtin .append,args:=#[x,y],argTypes:=#[T,xT] })
    (hT : P.underlying T = some (.slice e)) (hx : jY P (some xT) = true) (hz : bg P e = some z) (hc : P.cellsOf e≠0) (rD : z.length = P.cellsOf e)
    (et : im (P.cellsOf e) s (ρ y) = some (m,ds)) (hm : m≠0) (h1 : (n + m) * P.bytesOf e≤2 ^ 46) (h2 : n + m≤2 ^ 46) (ln : ds.all AV.one = true) (hb : mn (P.cellsOf e) s (ρ x) n cs)
    (hρ : ∀ x,au G (ρ x) (ρ' x)) (hs : aN Γ G s w) :
    cY P Γ G (fun r s'=>∃ ob cap rest,r = .iv ob 0 (P.cellsOf e) (n + m) cap∧n + m≤cap∧cap < 2 ^ 63∧rest.length = (cap - (n + m)) * P.cellsOf e∧(s.av ob = none∨∃ qH,ρ x = .iv ob 0 (P.cellsOf e) n qH)∧s' = s.set ob (cs ++ ds ++ rest)) ((execOp ρ' o).run P w):=by
  obtain ⟨G',r,w',ob,cap,rest,q1,q2,q3,q3',q4,q5,q6,q7⟩:=tv hT hx ⟨hz,hc,rD⟩ et hm h1 h2 ln hb (hρ x) (hρ y) hs o.type;rw [cN ho];simp only [builtin];exact dt ⟨G',r,w',_,_,by simpa using q1,q2,q6,q7,ob,cap,rest,rfl,q3,q3',q4,q5,rfl⟩
end Go.AM
namespace Go.AM
open Go Go.RowKit
variable {rd : Option Nat} {P : Program} {Γ : Nat→List AV} {G : Gh} {s : AS} {w : World} {N : Nat}
def cw (Γ : Nat→List AV) (s : AS) (x : AV) (s' : AS) (x' : AV) : Prop:=∀ G w u,aN Γ G s w→au G x u→∃ G',G.le G'∧aN Γ G' s' w∧au G' x' u
theorem cw.refl (x : AV) : cw Γ s x s x:=fun G _ _ hs hv=>⟨G,.refl G,hs,hv⟩
theorem cw.trans {s1 s2 s3 : AS} {x y z : AV} (h : cw Γ s1 x s2 y) (k : cw Γ s2 y s3 z) : cw Γ s1 x s3 z:=by
  intro G w u hs hv;obtain ⟨G1,h1,h2,h3⟩:=h G w u hs hv;obtain ⟨G2,k1,k2,k3⟩:=k G1 w u h2 h3;exact ⟨G2,h1.trans k1,k2,k3⟩
theorem cw.aB {x y : AV} (h : x.aB y) : cw Γ s x s y:=fun G _ _ hs hv=>⟨G,.refl G,hs,h _ _ hv⟩
theorem aN.O8 {o : Nat} {cs cs' : List AV} (h : aN Γ G s w) (ho : s.av o = some cs) (hw : ∀ vs,aq G cs vs→aq G cs' vs) : aN Γ G (s.set o cs') w:=by
  refine ⟨h.ro,?_,h.cK,h.inj,h.own,h.cx,h.bJ,h.cn,h.bU,h.below,h.others,h.base,h.gA,h.soft⟩;intro o' ds hd;by_cases e : o' = o
  · subst e;rw [AS.ae] at hd;cases hd;obtain ⟨b,vs,h1,h2,h3,h4⟩:=h.av o' cs ho;exact ⟨b,vs,h1,hw vs h2,h3,h4⟩
  · rw [AS.ao _ e] at hd;exact h.av o' ds hd
theorem cw.cells {O : Nat} {A B : List AV} {a b : AV} (x : AV) (hO : s.av O = some (A ++ a :: B)) (hw : a.aB b) : cw Γ s x (s.set O (A ++ b :: B)) x:=by
  intro G w u hs hv;refine ⟨G,.refl G,hs.O8 hO (fun vs h=>?_),hv⟩;have hl:=h.length;have h1:=h.take A.length;have h2:=h.drop A.length;rw [List.take_left] at h1;rw [List.drop_left] at h2;generalize hd : vs.drop A.length = ds at h2;simp only [aq] at h2;obtain ⟨u1,us,rfl,h3,h4⟩:=h2;rw [← List.take_append_drop A.length vs,hd];exact h1.append (by simp only [aq]; exact ⟨u1,us,rfl,hw _ _ h3,h4⟩)
theorem cw.inner {O o sz n cap : Nat} {A B cs rest : List AV} (x : AV) (hO : s.av O = some (A ++ .iv o 0 sz n cap :: B)) (ho : s.av o = some (cs ++ rest)) (cW : O≠o) (hl : cs.length = n * sz) :
    cw Γ s x ((s.drop o).set O (A ++ .sl sz n cs .any :: B)) x:=by
  intro G w u hs hv;obtain ⟨b,vs,h1,h2,h3,h4,h5⟩:=hs.freeze ho;refine ⟨_,h3,h5.O8 (cs:=A ++ .iv o 0 sz n cap :: B) (by rw [AS.pr,gF _ _ cW]; exact hO) (fun us h=>?_),au.mono h3 _ _ hv⟩;have k1:=h.take A.length;have k2:=h.drop A.length;rw [List.take_left] at k1;rw [List.drop_left] at k2;generalize hd : us.drop A.length = ds at k2;simp only [aq] at k2;obtain ⟨u1,us1,rfl,k3,k4⟩:=k2;rw [← List.take_append_drop A.length us,hd];refine k1.append ?_;simp only [aq];refine ⟨u1,us1,rfl,?_,k4⟩;simp only [au] at k3 ⊢;obtain ⟨b',q1,q2,q3⟩:=k3;rw [h3.obj _ _ h1] at q1;cases q1;have q5:=h2.take cs.length;rw [List.take_left] at q5;refine .inl ⟨b,0,cap,_,q2,hl,q3,aq.mono h3 _ _ q5,?_,trivial⟩;intro j y hj;rw [List.getElem?_take] at hj;split at hj
  · exact h4 j y hj
  · cases hj
theorem cw.outer {o sz n cap : Nat} {cs rest : List AV} (ho : s.av o = some (cs ++ rest)) (hl : cs.length = n * sz) : cw Γ s (.iv o 0 sz n cap) (s.drop o) (.sl sz n cs .any):=by
  intro G w u hs hv;obtain ⟨b,vs,h1,h2,h3,h4,h5⟩:=hs.freeze ho;refine ⟨_,h3,h5,?_⟩;simp only [au] at hv ⊢;obtain ⟨b',q1,q2,q3⟩:=hv;rw [h1] at q1;cases q1;have q5:=h2.take cs.length;rw [List.take_left] at q5;refine .inl ⟨b,0,cap,_,q2,hl,q3,aq.mono h3 _ _ q5,?_,trivial⟩;intro j y hj;rw [List.getElem?_take] at hj;split at hj
  · exact h4 j y hj
  · cases hj
theorem ai.settle {f : FuncId} {args : List AV} {Q R : AV→AS→Prop} (h : ai P Γ f args s Q) (k : ∀ r s1,Q r s1→∃ s2 r2,cw Γ s1 r s2 r2∧R r2 s2) : ai P Γ f args s R:=by
  intro G w vs hs ha;refine (h G w vs hs ha).mono ?_;rintro e w' ⟨G',r,v,s',rfl,h1,h2,h3,h4⟩;obtain ⟨s2,r2,k1,k2⟩:=k r s' h4;obtain ⟨G2,q1,q2,q3⟩:=k1 G' w' v h2 h3;exact ⟨G2,r2,v,s2,rfl,h1.trans q1,q2,q3,k2⟩
theorem Dm {E : Env} {Q : Exit→Env→AS→Prop} {id : Nat} {L2 : List Oper} {o1 o2 o : Oper} {code : Code} (hg : o.guard = none) (hd : ∀ d,o.dst = some d→d < N)
    (h : ∀ ops,AY P Γ N ops [o1,o2] (fun E1 s1=>∃ K1 : AV→AS→Prop,(∀ G a w,Rel Γ N G E1 s1 a w→cY P Γ G K1 ((execOp a.eval o).run P w)) ∧
      ∀ r s2,K1 r s2→AY P Γ N ops L2 (fun E' s'=>ch P Γ N code Q E' s') (bu E1 o.dst r) s2) E s) :
    ch P Γ N (.seq (.region id (o1 :: o2 :: o :: L2).toArray false) code) Q E s :=
  oF [o1,o2] L2 hg hd (h _)
theorem oJ {E : Env} {Q : Exit→Env→AS→Prop} {id : Nat} (L1 L2 : List Oper) {o : Oper} (hg : o.guard = none) (hd : ∀ d,o.dst = some d→d < N)
    (h : AY P Γ N (L1 ++ o :: L2).toArray L1 (fun E1 s1=>∃ K1 : AV→AS→Prop,(∀ G a w,Rel Γ N G E1 s1 a w→cY P Γ G K1 ((execOp a.eval o).run P w)) ∧
      ∀ r s2,K1 r s2→AY P Γ N (L1 ++ o :: L2).toArray L2 (fun E' s'=>Q .normal E' s') (bu E1 o.dst r) s2) E s) :
    ch P Γ N (.region id (L1 ++ o :: L2).toArray false) Q E s:=by
  rw [ay] at h;intro G a w hr;refine wpIn_region ?_;have bR : ∀ ops : Array Oper,(List.range ops.size).map (ops[·]?) = ops.toList.map some:=by
    intro ops;apply List.ext_getElem?;intro i;simp only [List.getElem?_map];by_cases hi : i < ops.size
    · simp [hi]
    · simp [hi]
  have oG:=bR (L1 ++ o :: L2).toArray;generalize hI : List.range (L1 ++ o :: L2).toArray.size = I at oG;have h1 : (I.take L1.length).map ((L1 ++ o :: L2).toArray[·]?) = L1.map some:=by
    rw [List.map_take,oG]; simp
  have h2 : (I.drop L1.length).map ((L1 ++ o :: L2).toArray[·]?) = (o :: L2).map some:=by
    rw [List.map_drop,oG]; simp
  rw [← List.take_append_drop L1.length I];generalize I.take L1.length = I1 at h1;generalize I.drop L1.length = I2 at h2;cases I2 with
  | nil=>simp at h2
  | cons i I2 =>
    simp only [List.map_cons,List.cons.injEq] at h2;refine dG L1 I1 (i :: I2) h1 (dy _ h) hr ?_;rintro G1 E1 s1 a1 w1 gl pZ ⟨⟨K1,gC,hk⟩,Bm⟩;rw [wpOpsIn_cons];simp only [wpOpIn,h2.1];rw [if_pos (dI hg)];refine (Oper.mh pZ hd (gC G1 a1 w1 pZ) ?_);intro G3 r s3 a3 w3 O5 p5 hK;refine kG L2 I2 h2.2 (dy _ (hk r s3 hK)) p5 ?_;rintro G4 E4 s4 a4 w4 Tz Cs ⟨QL,Jj⟩;refine ⟨G4,E4,s4,gl.trans (O5.trans Tz),Cs,QL,?_⟩;intro i hi;have mem : ∀ L : List Oper,i ∈ ct L↔∃ o ∈ L,o.dst = some i:=(fun L=>by simp [ct,List.mem_filterMap]);have aX : ¬ ∃ o' ∈ L1 ++ o :: L2,o'.dst = some i:=fun hm=>hi ((mem _).2 hm);have m1 : i ∉ ct L1:=fun hm=>aX (by obtain ⟨o,k1,k2⟩:=(mem _).1 hm; exact ⟨o,by simp [k1],k2⟩);have m2 : i ∉ ct L2:=fun hm=>aX (by obtain ⟨o,k1,k2⟩:=(mem _).1 hm; exact ⟨o,by simp [k1],k2⟩);have m3 : o.dst≠some i:=fun e=>aX ⟨o,by simp,e⟩;rw [Jj i m2,cp m3,Bm i m1]
theorem xi {E : Env} {Q : Exit→Env→AS→Prop} {id : Nat} {L2 : List Oper} {o1 o2 o3 o4 o : Oper} (hg : o.guard = none) (hd : ∀ d,o.dst = some d→d < N)
    (h : ∀ ops,AY P Γ N ops [o1,o2,o3,o4] (fun E1 s1=>∃ K1 : AV→AS→Prop,(∀ G a w,Rel Γ N G E1 s1 a w→cY P Γ G K1 ((execOp a.eval o).run P w)) ∧
      ∀ r s2,K1 r s2→AY P Γ N ops L2 (fun E' s'=>Q .normal E' s') (bu E1 o.dst r) s2) E s) :
    ch P Γ N (.region id (o1 :: o2 :: o3 :: o4 :: o :: L2).toArray false) Q E s :=
  oJ [o1,o2,o3,o4] L2 hg hd (h _)
end Go.AM
namespace Go.AM
open Go Go.RowKit
variable {P : Program} {Γ : Nat→List AV} {N : Nat} {x y : List AV}
end Go.AM
namespace Go.AM
open Go Go.RowKit
variable {P : Program} {Γ : Nat→List AV} {G : Gh} {s : AS} {w : World} {N : Nat} {E : Env}
def yS (E : Env) : List Tmp→List AV→Env
  | p :: ps,x :: xs=>yS (aF E p x) ps xs
  | _,_=>E
theorem Ak {G : Gh} : ∀ (ps : List Tmp) (xs : List AV) (us : List Value) (E : Env) (t : Array Value),aq G xs us→t.size = N→(∀ p ∈ ps,p < N)→(∀ i,au G (E i) (t.getD i undef)) →
    ((ps.zip us).foldl (fun t (pv : Tmp × Value)=>t.setIfInBounds pv.1 pv.2) t).size = N∧∀ i,au G (yS E ps xs i) (((ps.zip us).foldl (fun t (pv : Tmp × Value)=>t.setIfInBounds pv.1 pv.2) t).getD i undef)
  | [],xs,us,E,t,hv,hs,hp,h=>by simp only [yS,List.zip_nil_left,List.foldl_nil]; exact ⟨hs,h⟩
  | p :: ps,[],us,E,t,hv,hs,hp,h=>by simp only [aq] at hv; subst hv; simp only [yS,List.zip_nil_right,List.foldl_nil]; exact ⟨hs,h⟩
  | p :: ps,x :: xs,us,E,t,hv,hs,hp,h=>by
    simp only [aq] at hv;obtain ⟨u,vg,rfl,h1,h2⟩:=hv;simp only [List.zip_cons_cons,List.foldl_cons,yS];refine Ak ps xs vg (aF E p x) (t.setIfInBounds p u) h2 (by simpa using hs) (fun q hq=>hp q (by simp [hq])) fun i=>?_;simp only [aF];split
    · rename_i e;subst e;have : i < t.size:=(by rw [hs]; exact hp i (by simp));simpa [Array.getD,this] using h1
    · rename_i e;have:=h i;simp only [Array.getD_eq_getD_getElem?] at this ⊢;rw [Array.getElem?_setIfInBounds_ne (by omega)];exact this
def uQ (P : Program) (Γ : Nat→List AV) (gf : FuncId) (b6 : List AV) (xs : List (List AV)) : Prop :=
  ∀ (I : Nat→AS→Prop) (l : Nat) (s : AS) (G : Gh) (W : World) (lb : List Value),G.df = []→aq G b6 lb→I 0 s→aN Γ G s W →
    (∀ i x s1 G1 us W1,xs[i]? = some x→I i s1→G.le G1→aN Γ G1 s1 W1→aq G1 x us→YieldAt Fence.wide 0 P l us.toArray W1 fun e W'=>e = .returned (.bool true)∧∃ G2 s2,G1.le G2∧aN Γ G2 s2 W'∧I (i + 1) s2) →
    CallsIn Fence.wide 0 P gf (#[.func (.yield l) #[] #[]] ++ lb.toArray) W fun e W'=>(∃ v,e = .returned v)∧∃ G2 s2,G.le G2∧aN Γ G2 s2 W'∧I xs.length s2
theorem Bs {a : Act} {g : Operand} {ps : List Tmp} {assign body : Code} {gf : FuncId} {b6 : List AV} {xs : List (List AV)} (hr : Rel Γ N G E s a w) (tn : G.df = []) (hg : aL Γ E g = .pI gf b6) (IG : af P gf = true) (IH : uQ P Γ gf b6 xs)
    (hp : ∀ p ∈ ps,p < N) (L5 : ∀ x ∈ xs,x.length = ps.length) (I : Nat→AS→Prop) (h0 : I 0 s)
    (QY : ∀ (i : Nat) (x : List AV) (s1 : AS),xs[i]? = some x→I i s1→ch P Γ N assign (fun e E2 s2=>e = .normal∧ch P Γ N body (fun e E3 s3=>e = .normal∧I (i + 1) s3) E2 s2) (yS E ps x) s1) :
    (Code.rangeFunc g ps.toArray assign body).wpIn Fence.wide 0 P (fun e a' w'=>e = .normal∧∃ D G' s',G.le G'∧w.heap.size≤D∧w'.heap[D]? = some (.deferred (some [])) ∧
      a' = { a with defers:={ target:=.collected D,args:=#[] } :: a.defers }∧aN Γ G' s' w'∧I xs.length s') a w:=by
  have QM:=hr.eval g;rw [hg] at QM;simp only [au] at QM;obtain ⟨lb,Z2,QN⟩:=QM;have Mx : G.w0.heap.size≤w.heap.size:=hr.st.below.size;have hBw : G.B≤w.heap.size:=hr.st.base;refine wpIn_rangeFunc ?_;intro fn TB;obtain ⟨rec,oH⟩ : ∃ rec : LoopState→Option Code→Loop,rec = fun st pe=>{ state:=st,pending:=pe,fn,tmps:=a.tmps,params:=ps.toArray,assign,body,defers:=w.heap.size }:=⟨_,rfl⟩;obtain ⟨W1,ML⟩ : ∃ W1,(w.alloc (.deferred (some []))).alloc (.loop (rec .ready none)) = W1:=⟨_,rfl⟩;have QO : W1.heap[w.heap.size + 1]? = some (.loop (rec .ready none)):=by
    rw [← ML]; have:=World.alloc_heap_new (w.alloc (.deferred (some []))) (.loop (rec .ready none)); rwa [World.size_alloc] at this
  have kf : W1.heap[w.heap.size]? = some (.deferred (some [])):=by
    rw [← ML]; exact (Below.heap_alloc _ _ _ (by simp)).trans (World.alloc_heap_new w _)
  have ik : aN Γ G s W1:=by
    rw [← ML]; exact (hr.st.alloc _ (by intro c T lo hi e; cases e)).alloc _ (by intro c T lo hi e; cases e)
  refine ⟨w.heap.size + 1,[{ target:=.collected w.heap.size,args:=#[] }],W1,{ target:=.fn (.func gf) lb.toArray,args:=#[.func (.yield (w.heap.size + 1)) #[] #[]] },W1,gf,
    #[.func (.yield (w.heap.size + 1)) #[] #[]] ++ lb.toArray,W1,?_,?_,?_,?_,(fun e=>by cases e),?_⟩
  · rw [← ML,oH]; exact run_enterLoop_outer _ _ _ _ _
  · simp only [resolve,Z2];simp [go_sem]
  · intro f' _; trivial
  · have:=mQ (w:=W1) IG (#[.func (.yield (w.heap.size + 1)) #[] #[]] ++ lb.toArray);simpa [invoke,go_sem] using this
  · have Z3 : aN Γ (G.setW W1) s W1:=ik.setW;refine (IH I (w.heap.size + 1) s (G.setW W1) W1 lb tn (aq.sub (G.fS W1) _ _ QN) h0 Z3 ?_).mono ?_
    · rintro i x s1 G1 us W hx hI hle h2 hu;have HE : G1.w0 = W1:=hle.w0;have QP : G1.B = G.B:=hle.B;have HF : cX W1 W:=(by have:=h2.others; rwa [HE] at this);have hl:=HF _ _ QO (by intros; simp);have hk:=HF _ _ kf (by intros; simp);have Z4 : Below G.B W1 W:=(by have:=h2.below; rwa [HE,QP] at this);obtain ⟨q1,q2⟩:=ik.rz hle h2;have bI : w.heap.size + 1 < W.heap.size:=(Array.getElem?_eq_some_iff.1 hl).1;have hy:=run_yield (P:=P) (args:=us.toArray) hl (by rw [oH]; simp [← hu.length,L5 x (List.mem_of_getElem? hx)]);rw [oH] at hy;refine ⟨fn,_,assign,body,hy,roundIn_of_wpIn TB ?_⟩;have e3 : ((ps.toArray).zip us.toArray).foldl (fun t (p,v)=>t.setIfInBounds p v) a.tmps = (ps.zip us).foldl (fun t (pv : Tmp × Value)=>t.setIfInBounds pv.1 pv.2) a.tmps:=(by simp);have Jk : Rel Γ N ((G1.setW G.w0).setW W) (yS E ps x) s1 { tmps:=((ps.toArray).zip us.toArray).foldl (fun t (p,v)=>t.setIfInBounds p v) a.tmps,defers:=[] } W:=by
        rw [e3];have htm:=Ak (G:=(G1.setW G.w0).setW W) ps x us E a.tmps (aq.sub (G:=G1.setW G.w0) (Gh.fS _ _) _ _ (aq.sub (G1.fS G.w0) _ _ hu)) hr.size hp fun k=>au.sub (G:=G1.setW G.w0) (Gh.fS _ _) _ _ (au.mono q2 _ _ (hr.tmps k));exact ⟨q1.setW,htm.1,htm.2,by rw [show ((G1.setW G.w0).setW W).df = G1.df from rfl,hle.df]; exact tn.symm⟩
      refine wpIn_mono (QY i x s1 hx hI _ _ W Jk (rd:=some (w.heap.size + 1))) ?_;rintro e a1 Wa ⟨Ga,E2,s2,yP,HG,⟨rfl,SS⟩,-⟩;have QQ : cX W Wa:=by
        have:=HG.st.others;rwa [show Ga.w0 = W from yP.w0] at this
      have TC : Below G.B W Wa:=by
        have:=HG.st.below;rwa [show Ga.w0 = W from yP.w0,show Ga.B = G.B from yP.B.trans QP] at this
      have QR:=QQ _ _ hl (by intros; simp);have Z5:=QQ _ _ hk (by intros; simp);obtain ⟨Z6,gb2⟩:=q1.rz yP HG.st;refine ⟨_,run_beginRound QR (by rw [oH]),?_⟩;have Jl : w.heap.size + 1 < Wa.heap.size:=(Array.getElem?_eq_some_iff.1 QR).1;obtain ⟨W2,Jm⟩ : ∃ W2,Wa.putObj (w.heap.size + 1) (.loop { rec .ready none with state:=.busy }) = W2:=⟨_,rfl⟩;have EC : W2.heap[w.heap.size + 1]? = some (.loop { rec .ready none with state:=.busy }):=(by rw [← Jm]; exact World.putObj_heap_same Jl);have SR : Ga.B = G.B:=yP.B.trans QP;have nY : aN Γ (Ga.setW G.w0) s2 W2:=by
        rw [← Jm];exact Z6.putObj QR (by intros; simp) (by intros; simp) (by show G.w0.heap.size≤_; omega) (by show Ga.B≤_; omega)
      rw [Jm];have wF : Rel Γ N ((Ga.setW G.w0).setW W2) E2 s2 a1 W2 :=
        ⟨nY.setW,HG.size,fun k=>au.sub (G:=Ga) (G':=(Ga.setW G.w0).setW W2) ⟨rfl,rfl,rfl,rfl⟩ _ _ (HG.tmps k),HG.defers⟩
      refine wpIn_mono (SS _ _ W2 wF (rd:=some (w.heap.size + 1))) ?_;rintro e a3 W3 ⟨G2,E3,s3,g1,⟨g2,-,-,-⟩,⟨rfl,hI3⟩,-⟩;have QS : G2.w0 = W2:=g1.w0;have TD : G2.B = G.B:=g1.B.trans SR;have Mt : cX W2 W3:=by
        have:=g2.others;rwa [QS] at this
      have TE : Below G.B W2 W3:=by
        have:=g2.below;rwa [QS,TD] at this
      have Hq:=Mt _ _ EC (by intros; simp);obtain ⟨g3,g4⟩:=nY.rz g1 g2;have p5 : (Instr.endRound (w.heap.size + 1) none).run P W3 = .ok (.bool true) (W3.putObj (w.heap.size + 1) (.loop (rec .ready none))):=by
        have:=run_endRound (P:=P) none Hq;rw [oH] at this ⊢;exact this
      have yQ : w.heap.size + 1 < W3.heap.size:=(Array.getElem?_eq_some_iff.1 Hq).1;have L9:=g3.putObj (o':=.loop (rec .ready none)) Hq (by intros; simp) (by intros; simp) (by show G.w0.heap.size≤_; omega) (by show G2.B≤_; omega);have TF : ∀ (V : World) (o : Obj),w.heap.size + 1 < V.heap.size→Below G.B V (V.putObj (w.heap.size + 1) o):=fun V o hV =>
        (Below.refl _ _).grown (row:=some (w.heap.size + 1)) ⟨rfl,rfl,rfl,by simp [World.putObj],fun i _ hi=>World.putObj_heap_other (fun e=>hi (by rw [e]))⟩ (by omega) (fun i e=>by cases e; omega)
      refine ⟨_,_,p5,rfl,G2.setW W1,s3,?_,?_,hI3⟩
      · exact ⟨fun b j v hv=>g1.ro b j v (yP.ro b j v hv),fun o b hb=>g1.obj o b (yP.obj o b hb),fun t e r ht=>g1.tok t e r (yP.tok t e r ht),g1.B.trans yP.B,HE.symm,g1.df.trans yP.df⟩
      · refine L9.sub (G:=G2.setW G.w0) (G':=G2.setW W1) ⟨rfl,rfl,rfl,rfl⟩ rfl rfl ?_ ?_
        · show Below G2.B W1 _;rw [TD];refine (Z4.trans TC).trans (Below.trans ?_ (TE.trans (TF _ _ yQ)));rw [← Jm];exact TF _ _ Jl
        · intro k o Jn uu;replace Jn : W1.heap[k]? = some o:=Jn;by_cases e : k = w.heap.size + 1
          · subst e;rw [QO] at Jn;cases Jn;exact World.putObj_heap_same yQ
          · rw [World.putObj_heap_other e];refine Mt k o ?_ uu;rw [← Jm,World.putObj_heap_other e];exact QQ k o (HF k o Jn uu) uu
    · rintro e W2 ⟨⟨v,rfl⟩,G2,s2,h1,h2,TJ⟩;have HE : G2.w0 = W1:=h1.w0;have HF : cX W1 W2:=(by have:=h2.others; rwa [HE] at this);have hl:=HF _ _ QO (by intros; simp);have hk:=HF _ _ kf (by intros; simp);obtain ⟨q1,q2⟩:=ik.rz h1 h2;refine ⟨none,_,by have:=run_endLoop (P:=P) hl (by rw [oH]; simp); rw [oH] at this; exact this,rfl,w.heap.size,G2.setW G.w0,s2,q2,Nat.le_refl _,(World.putObj_heap_other (by omega)).trans hk,rfl,?_,TJ⟩;rw [oH] at hl;exact q1.putObj hl (by intros; simp) (by intros; simp) (by show G.w0.heap.size≤_; omega) (by rw [show (G2.setW G.w0).B = G2.B from rfl,h1.B]; show G.B≤_; omega)
def EY (P : Program) (Γ : Nat→List AV) (N : Nat) (rs : List ResultVar) (bS : AV→AS→Prop) (c : Code) (E : Env) (s : AS) : Prop :=
  ∀ (G : Gh) (a : Act) (w : World),G.df = []→Rel Γ N G E s a w→c.wpIn Fence.wide 0 P (fun e a' w'=>(e = .normal∨e = .ret)∧∃ D G' E' s',G.le G'∧(G.w0.heap.size≤D∧G.B≤D)∧w'.heap[D]? = some (.deferred (some [])) ∧
      a'.defers = [{ target:=.collected D,args:=#[] }]∧Rel Γ N (G'.cA a'.defers) E' s' a' w'∧bt P rs bS E' s') a w
theorem xj {f : FuncId} {fn : Func} {c : Code} {args : List AV} {bS : AV→AS→Prop} {s : AS} (hf : P.funcs[f]? = some fn) (hb : fn.body = some c) {n : Nat} (hN : fn.ntmps = n) {rs : Array ResultVar} (L6 : fn.results = rs) (hn : args.length≤n)
    (h : EY P Γ n rs.toList bS c (bz args) s) : ai P Γ f args s bS:=by
  subst hN;subst L6;exact nE hf hb hn h
variable {rs : List ResultVar} {bS : AV→AS→Prop}
theorem MS {x y : Code} (h : ch P Γ N x (fun e E' s'=>e = .normal∧EY P Γ N rs bS y E' s') E s) : EY P Γ N rs bS (.seq x y) E s:=by
  intro G a w tn hr;refine wpIn_seq (wpIn_mono (F:=te none) (n:=0) (h G a w hr) ?_);rintro e a1 w1 ⟨G1,E1,s1,g1,g2,⟨rfl,k⟩,-⟩;refine wpIn_mono (k G1 a1 w1 (g1.df.trans tn) g2) ?_;rintro e a' w' ⟨he,D,G',E',s',h1,h2,h3⟩;exact ⟨he,D,G',E',s',g1.trans h1,by rw [← g1.w0,← g1.B]; exact h2,h3⟩
theorem pz {id : Nat} {L : List Oper} {y : Code} (h : ∀ K : Env→AS→Prop,(∀ E s,EY P Γ N rs bS y E s→K E s)→AY P Γ N L.toArray L K E s) : EY P Γ N rs bS (.seq (.region id L.toArray false) y) E s:=by
  refine MS (mS ?_);have:=h (fun E s=>Exit.normal = .normal∧EY P Γ N rs bS y E s) fun E s k=>⟨rfl,k⟩;rw [ay] at this;simpa using this
def EZ (P : Program) (Γ : Nat→List AV) (N : Nat) (rs : List ResultVar) (bS : AV→AS→Prop) (g : Operand) (ps : List Tmp) (assign body rest : Code) (E : Env) (s : AS) : Prop :=
  ∃ (gf : FuncId) (b6 : List AV) (xs : List (List AV)) (I : Nat→AS→Prop),aL Γ E g = .pI gf b6∧af P gf = true∧uQ P Γ gf b6 xs∧(∀ x ∈ xs,x.length = ps.length)∧I 0 s ∧
    (∀ (i : Nat) (x : List AV) (s1 : AS),xs[i]? = some x→I i s1→ch P Γ N assign (fun e E2 s2=>e = .normal∧ch P Γ N body (fun e E3 s3=>e = .normal∧I (i + 1) s3) E2 s2) (yS E ps x) s1) ∧
    ∀ s2,I xs.length s2→ch P Γ N rest (b8 P rs bS) E s2
theorem HK {b : Nat} {x : Code} {g : Operand} {ps : List Tmp} {assign body rest : Code} (hp : ∀ p ∈ ps,p < N)
    (h : ch P Γ N x (fun e E' s'=>e = .normal∧EZ P Γ N rs bS g ps assign body rest E' s') E s) : EY P Γ N rs bS (.seq (.seq x (.block b (.rangeFunc g ps.toArray assign body))) rest) E s:=by
  intro G a w tn hr;refine wpIn_seq (wpIn_seq (wpIn_mono (F:=te none) (n:=0) (h G a w hr) ?_));rintro e a1 w1 ⟨G1,E1,s1,g1,g2,⟨rfl,gf,b6,xs,I,q1,q2,q3,q4,q5,q6,q7⟩,-⟩;have TQ : G1.df = []:=g1.df.trans tn;refine wpIn_block (wpIn_mono (Bs g2 TQ q1 q2 q3 hp q4 I q5 q6) ?_);rintro e a2 w2 ⟨rfl,D,G2,s2,h1,hD,hk,rfl,hs,hI⟩;have eL:=g2.st.below.size;have EK:=g2.st.base;refine ch.behind g2 h1 hk hs TQ (q7 s2 hI) ?_;intro e G3 E3 s3 a3 w3 j1 j2 j3 j4 j5;have hf : bt P rs bS E3 s3∧(e = .normal∨e = .ret):=by
    cases e <;> simp only [b8] at j5
    · exact ⟨j5,.inl rfl⟩
    · exact ⟨j5,.inr rfl⟩
  exact ⟨hf.2,D,G3,E3,s3,g1.trans j1,⟨by rw [← g1.w0]; omega,by rw [← g1.B]; omega⟩,j2,j3,j4,hf.1⟩
theorem p7 {id b : Nat} {L : List Oper} {g : Operand} {ps : List Tmp} {assign body rest : Code} (hp : ∀ p ∈ ps,p < N)
    (h : ∀ K : Env→AS→Prop,(∀ E s,EZ P Γ N rs bS g ps assign body rest E s→K E s)→AY P Γ N L.toArray L K E s) : EY P Γ N rs bS (.seq (.seq (.region id L.toArray false) (.block b (.rangeFunc g ps.toArray assign body))) rest) E s:=by
  refine HK hp (mS ?_);have:=h (fun E s=>Exit.normal = .normal∧EZ P Γ N rs bS g ps assign body rest E s) fun E s k=>⟨rfl,k⟩;rw [ay] at this;simpa using this
end Go.AM
namespace Go.AM
open Go Go.RowKit
variable {P : Program} {Γ : Nat→List AV} {G : Gh} {s : AS} {w : World} {N : Nat} {E : Env}
theorem vr {Q : Exit→Env→AS→Prop} {id : Nat} {L2 : List Oper} {o1 o2 o3 o : Oper} (hg : o.guard = none) (hd : ∀ d,o.dst = some d→d < N)
    (h : ∀ ops,AY P Γ N ops [o1,o2,o3] (fun E1 s1=>∃ K1 : AV→AS→Prop,(∀ G a w,Rel Γ N G E1 s1 a w→cY P Γ G K1 ((execOp a.eval o).run P w)) ∧
      ∀ r s2,K1 r s2→AY P Γ N ops L2 (fun E' s'=>Q .normal E' s') (bu E1 o.dst r) s2) E s) :
    ch P Γ N (.region id (o1 :: o2 :: o3 :: o :: L2).toArray false) Q E s :=
  oJ [o1,o2,o3] L2 hg hd (h _)
def YA (P : Program) (Γ : Nat→List AV) (G0 : Gh) (l : Nat) (x : List AV) (s1 : AS) (bS : AS→Prop) : Prop :=
  ∀ (G1 : Gh) (us : List Value) (W1 : World),G0.le G1→aN Γ G1 s1 W1→aq G1 x us→YieldAt Fence.wide 0 P l us.toArray W1 fun e W'=>e = .returned (.bool true)∧∃ G2 s2,G1.le G2∧aN Γ G2 s2 W'∧bS s2
def Gq (P : Program) (Γ : Nat→List AV) (N : Nat) (G0 : Gh) (c : Code) (Q : Exit→Env→AS→Prop) (E : Env) (s : AS) : Prop :=
  ∀ (G : Gh) (a : Act) (w : World),G0.le G→Rel Γ N G E s a w →
    c.wpIn Fence.wide 0 P (fun e a' w'=>∃ G' E' s',G.le G'∧Rel Γ N G' E' s' a' w'∧Q e E' s'∧∀ i,i ∉ writes c→E' i = E i) a w
variable {G0 : Gh} {Q : Exit→Env→AS→Prop}
theorem ch.y {c : Code} (h : ch P Γ N c Q E s) : Gq P Γ N G0 c Q E s:=fun G a w _ hr=>h G a w hr (rd:=none)
theorem ew {x y : Code} (h : Gq P Γ N G0 x (az (Gq P Γ N G0 y Q) Q) E s) : Gq P Γ N G0 (.seq x y) Q E s:=by
  intro G a w hG hr;refine wpIn_seq (wpIn_mono (h G a w hG hr) ?_);rintro e a' w' ⟨G',E',s',h1,h2,h3,h4⟩;have hw : ∀ i,i ∉ writes (.seq x y)→E' i = E i:=fun i hi=>h4 i (fun hm=>hi (by simp [writes,hm]));cases e <;> simp only [Exit.then,az] at h3 ⊢;case normal =>
    refine wpIn_mono (h3 G' a' w' (hG.trans h1) h2) ?_;rintro e yH vn ⟨uB,jq,iq,k1,k2,k3,k4⟩;exact ⟨uB,jq,iq,h1.trans k1,k2,k3,fun i hi=>by rw [k4 i (fun hm=>hi (by simp [writes,hm])),hw i hi]⟩
  all_goals exact ⟨G',E',s',h1,h2,h3,hw⟩
theorem pA {id : Nat} {c : Code} (h : Gq P Γ N G0 c (ar id Q) E s) : Gq P Γ N G0 (.block id c) Q E s:=by
  intro G a w hG hr;refine wpIn_block (wpIn_mono (h G a w hG hr) ?_);rintro e a' w' ⟨G',E',s',h1,h2,h3,h4⟩;cases e <;> simp only [Exit.inBlock,ar] at h3 ⊢;case exit YO =>
    split at h3
    · rename_i QD; rw [if_pos QD]; exact ⟨G',E',s',h1,h2,h3,h4⟩
    · rename_i QD; rw [if_neg QD]; exact ⟨G',E',s',h1,h2,h3,h4⟩
  all_goals exact ⟨G',E',s',h1,h2,h3,h4⟩
theorem Dn {c : Code} (I : Env→AS→Prop) (μ : Env→AS→Nat) (h0 : I E s)
    (round : ∀ E' s',I E' s'→(∀ i,i ∉ writes c→E' i = E i)→Gq P Γ N G0 c (az (fun jq iq=>I jq iq∧μ jq iq < μ E' s') Q) E' s') : Gq P Γ N G0 (.loop c) Q E s:=by
  intro G a w hG hr;let Φ : Act→World→Gh→Env→AS→Prop:=fun a w G' E' s'=>G.le G'∧Rel Γ N G' E' s' a w∧I E' s'∧∀ i,i ∉ writes c→E' i = E i;let C : Act→World→Nat→Prop:=fun a w n=>∃ G' E' s',Φ a w G' E' s'∧μ E' s' = n;open Classical in
  let ν : Act→World→Nat:=fun a w=>if h : ∃ n,C a w n then Classical.choose (exists_least _ h) else 0
  refine wpIn_loop (fun a w=>∃ n,C a w n) ν ⟨_,G,E,s,⟨.refl G,hr,h0,fun _ _=>rfl⟩,rfl⟩ ?_;intro a1 w1 hI;have hν : ν a1 w1 = Classical.choose (exists_least _ hI):=(by simp only [ν]; rw [dif_pos hI]);obtain ⟨G1,E1,s1,⟨g1,g2,g3,g4⟩,g5⟩:=(Classical.choose_spec (exists_least _ hI)).1;refine wpIn_mono (round E1 s1 g3 g4 G1 a1 w1 (hG.trans g1) g2) ?_;rintro e a' w' ⟨G',E',s',h1,h2,h3,h4⟩;have hw : ∀ i,i ∉ writes c→E' i = E i:=(fun i hi=>by rw [h4 i hi,g4 i hi]);cases e <;> simp only [Exit.then,az] at h3 ⊢;case normal =>
    have hC : ∃ n,C a' w' n:=⟨_,G',E',s',⟨g1.trans h1,h2,h3.1,hw⟩,rfl⟩;refine ⟨hC,?_⟩;have : ν a' w' = Classical.choose (exists_least _ hC):=(by simp only [ν]; rw [dif_pos hC]);rw [this,hν,← g5];exact Nat.lt_of_le_of_lt ((Classical.choose_spec (exists_least _ hC)).2 _ ⟨G',E',s',⟨g1.trans h1,h2,h3.1,hw⟩,rfl⟩) h3.2
  all_goals exact ⟨G',E',s',g1.trans h1,h2,h3,hw⟩
theorem yU {ρ : Operand→Value} {o : Oper} {f : Operand} {xs : List Operand} {ts : Array TypeId} {l : Nat} (ho : o.op = .call { callee:=.value f,args:=xs.toArray,argTypes:=ts }) (hf : ρ f = .func (.yield l) #[] #[]) :
    (execOp ρ o).run P w = (Instr.yield l (xs.map ρ).toArray).run P w:=by
  obtain ⟨dst,op,type,pos,after,guard⟩:=o;simp only at ho;subst ho;simp [execOp,resolve,hf,Deferred.ofValue,invoke]
theorem xk {G : Gh} {E : Env} {a : Act} {w : World} (hr : Rel Γ N G E s a w) : ∀ xs : List Operand,aq G (xs.map (aL Γ E)) (xs.map a.eval)
  | []=>by simp [aq]
  | x :: xs=>by simp only [List.map_cons,aq]; exact ⟨_,_,rfl,hr.eval x,xk hr xs⟩
theorem Al {l id : Nat} (L1 L2 : List Oper) {o : Oper} {f : Operand} {xs : List Operand} {ts : Array TypeId}
    (ho : o.op = .call { callee:=.value f,args:=xs.toArray,argTypes:=ts }) (hg : o.guard = none) (hd : ∀ d,o.dst = some d→d < N)
    (h1 : AY P Γ N (L1 ++ o :: L2).toArray L1 (fun E1 s1=>aL Γ E1 f = .v (.func (.yield l) #[] #[])∧∃ bS,YA P Γ G0 l (xs.map (aL Γ E1)) s1 bS ∧
      ∀ s2,bS s2→AY P Γ N (L1 ++ o :: L2).toArray L2 (fun E' s'=>Q .normal E' s') (bu E1 o.dst (.v (.bool true))) s2) E s) : Gq P Γ N G0 (.region id (L1 ++ o :: L2).toArray false) Q E s:=by
  intro G a w hG hr;rw [ay] at h1;refine wpIn_region ?_;have oG:=Ae (L1 ++ o :: L2).toArray;generalize List.range (L1 ++ o :: L2).toArray.size = I at oG ⊢;obtain ⟨I1,i,I2,rfl,m1,mo,m2⟩:=Af (A:=L1) (B:=L2) (o:=o) oG;refine gO (l:=none) L1 I1 (i :: I2) m1 (dy _ h1) hr ?_;rintro G1 E1 s1 a1 w1 gl pZ ⟨⟨hf,bS,hy,hk⟩,Bm⟩;have HI:=pZ.eval f;rw [hf] at HI;simp only [au] at HI;obtain ⟨fn,tmps,assign,body,q1,q2⟩:=hy G1 (xs.map a1.eval) w1 (hG.trans gl) pZ.st (xk pZ xs);simp only [wpOpsIn,mo];rw [if_pos (dI hg)];refine ⟨fun _ _=>trivial,?_⟩;rw [Oper.semAt_eq _ _ _ (by intro c; rw [ho]; simp),yU ho HI,q1];rw [Oper.uponIn_round];refine ⟨fun e=>(by cases e),RoundIn.mono (F:=Fence.wide) q2 ?_⟩;rintro e W' ⟨rfl,G2,s2,g1,g2,g3⟩;have g4:=hk s2 g3;have p6 : Rel Γ N G2 E1 s2 a1 W':=⟨g2,pZ.size,fun i=>au.mono g1 _ _ (pZ.tmps i),pZ.defers.trans g1.df.symm⟩;have p5:=p6.put (dst:=o.dst) (Gh.le.refl G2) g2 (r:=.v (.bool true)) (v:=.bool true) (by simp [au]) hd;refine mW (l:=none) L2 I2 m2 (dy _ g4) p5 ?_;rintro G3 E3 s3 a3 w3 h3 p5 ⟨TL,QU⟩;refine ⟨G3,E3,s3,gl.trans (g1.trans h3),p5,TL,fun j hj=>?_⟩;have mem : ∀ L : List Oper,j ∈ ct L↔∃ o ∈ L,o.dst = some j:=(fun L=>by simp [ct,List.mem_filterMap]);have jZ : ¬ ∃ o' ∈ L1 ++ o :: L2,o'.dst = some j:=fun hm=>hj ((mem _).2 hm);have m1 : j ∉ ct L1:=fun hm=>jZ (by obtain ⟨o,k1,k2⟩:=(mem _).1 hm; exact ⟨o,by simp [k1],k2⟩);have m2 : j ∉ ct L2:=fun hm=>jZ (by obtain ⟨o,k1,k2⟩:=(mem _).1 hm; exact ⟨o,by simp [k1],k2⟩);have m3 : o.dst≠some j:=fun e=>jZ ⟨o,by simp,e⟩;rw [QU j m2,cp m3,Bm j m1]
theorem Fa {l id : Nat} {o1 o2 o p1 : Oper} {f : Operand} {xs : List Operand} {ts : Array TypeId} {code : Code}
    (ho : o.op = .call { callee:=.value f,args:=xs.toArray,argTypes:=ts }) (hg : o.guard = none) (hd : ∀ d,o.dst = some d→d < N)
    (h1 : ∀ (K : Env→AS→Prop),(∀ E s,Gq P Γ N G0 code Q E s→K E s)→∀ ops,AY P Γ N ops [o1,o2] (fun E1 s1=>aL Γ E1 f = .v (.func (.yield l) #[] #[])∧∃ bS,YA P Γ G0 l (xs.map (aL Γ E1)) s1 bS ∧
      ∀ s2,bS s2→AY P Γ N ops [p1] K (bu E1 o.dst (.v (.bool true))) s2) E s) : Gq P Γ N G0 (.seq (.region id #[o1,o2,o,p1] false) code) Q E s :=
  ew (Al [o1,o2] [p1] ho hg hd (h1 _ (fun _ _ h=>h) _))
theorem Fb {l id : Nat} {o1 o2 o3 o4 o5 o6 o p1 : Oper} {f : Operand} {xs : List Operand} {ts : Array TypeId} {code : Code}
    (ho : o.op = .call { callee:=.value f,args:=xs.toArray,argTypes:=ts }) (hg : o.guard = none) (hd : ∀ d,o.dst = some d→d < N)
    (h1 : ∀ (K : Env→AS→Prop),(∀ E s,Gq P Γ N G0 code Q E s→K E s)→∀ ops,AY P Γ N ops [o1,o2,o3,o4,o5,o6] (fun E1 s1=>aL Γ E1 f = .v (.func (.yield l) #[] #[])∧∃ bS,YA P Γ G0 l (xs.map (aL Γ E1)) s1 bS ∧
      ∀ s2,bS s2→AY P Γ N ops [p1] K (bu E1 o.dst (.v (.bool true))) s2) E s) : Gq P Γ N G0 (.seq (.region id #[o1,o2,o3,o4,o5,o6,o,p1] false) code) Q E s :=
  ew (Al [o1,o2,o3,o4,o5,o6] [p1] ho hg hd (h1 _ (fun _ _ h=>h) _))
theorem Dp {gf : FuncId} {fn : Func} {c : Code} {b6 : List AV} {xs : List (List AV)} (hf : P.funcs[gf]? = some fn) (hb : fn.body = some c) {n : Nat} (hN : fn.ntmps = n) (L6 : fn.results = #[]) (hn : b6.length + 1≤n)
    (h : ∀ (I : Nat→AS→Prop) (l : Nat) (s : AS) (G : Gh),I 0 s→(∀ i x s1,xs[i]? = some x→I i s1→YA P Γ G l x s1 (I (i + 1))) →
      Gq P Γ n G c (fun e _ s'=>(e = .normal∨e = .ret)∧I xs.length s') (bz (.v (.func (.yield l) #[] #[]) :: b6)) s) : uQ P Γ gf b6 xs:=by
  subst hN;intro I l s G W lb tn QN h0 hs hy;refine callsIn_of_wp hf hb trivial ?_;have QZ:=Rel.entry (N:=fn.ntmps) (args:=.v (.func (.yield l) #[] #[]) :: b6) (vs:=.func (.yield l) #[] #[] :: lb) hs (by simp only [aq]; exact ⟨_,_,rfl,by simp [au],QN⟩) (by simpa using hn) tn;rw [show (#[.func (.yield l) #[] #[]] ++ lb.toArray : Array Value) = (.func (.yield l) #[] #[] :: lb).toArray from by simp];refine wpIn_mono (h I l s G h0 (fun i x s1 hx hI G1 us W1 hle h2 hu=>hy i x s1 G1 us W1 hx hI hle h2 hu) G _ W (.refl G) QZ) ?_;rintro e a' w' ⟨G',E',s',h1,h2,⟨h3,h4⟩,-⟩;have fin : bodyPost P fn (fun e W'=>(∃ v,e = .returned v)∧∃ G2 s2,G.le G2∧aN Γ G2 s2 W'∧I xs.length s2) .normal a' w':=by
    refine ⟨h2.defers.trans (h1.df.trans tn),.tuple #[],?_,⟨_,rfl⟩,G',s',h1,h2.st,h4⟩;rw [kJ,L6];simp
  rcases h3 with rfl | rfl
  · exact fin
  · exact fin
end Go.AM
namespace Go.AM
open Go Go.RowKit
variable {P : Program} {Γ : Nat→List AV} {N : Nat} {rs : List ResultVar} {bS : AV→AS→Prop}
theorem EY.ghost {c : Code} {E E' : Env} {s s' : AS} (hg : gK Γ N E s E' s') (h : EY P Γ N rs bS c E' s') : EY P Γ N rs bS c E s:=by
  intro G a w tn hr;obtain ⟨G1,h1,h2⟩:=hg G a w hr;refine wpIn_mono (h G1 a w (h1.df.trans tn) h2) ?_;rintro e a' w' ⟨he,D,G',E2,s2,k1,k2,k3⟩;exact ⟨he,D,G',E2,s2,h1.trans k1,by rw [← h1.w0,← h1.B]; exact k2,k3⟩
theorem Bt {c : Code} {E : Env} {s : AS} {d o : Nat} {cs : List AV} (hd : E d = .ptr o 0) (ho : s.av o = none) (h : EY P Γ N rs bS c (aF E d (.dc cs)) s) : EY P Γ N rs bS c E (s.set o cs):=by
  have:=gK.ml (Γ:=Γ) (N:=N) (E:=E) (s:=s.set o cs) (d:=d) hd (AS.ae _ _ _);rw [AS.drop_set ho] at this;exact h.ghost this
theorem HL {c : Code} {E : Env} {s s' : AS} (h : AS.tells Γ s s') (k : EY P Γ N rs bS c E s') : EY P Γ N rs bS c E s :=
  fun G a w tn hr=>k G a w tn ⟨h G w hr.st,hr.size,hr.tmps,hr.defers⟩
end Go.AM
namespace Go.AM
open Go Go.RowKit
variable {rd : Option Nat} {P : Program} {Γ : Nat→List AV} {G : Gh} {s : AS} {w : World} {N : Nat} {ops : Array Oper}
inductive SM where
  | val
  | Jq (v : AV)
  | all (v : AV)
  | vQ
def SM.du : SM→Bool
  | .vQ=>true
  | _=>false
def SM.isVal : SM→Bool
  | .val=>true
  | .all _=>true
  | _=>false
def Fc (P : Program) (Γ : Nat→List AV) (ops : Array Oper) (o : Oper) (E : Env) (s : AS) (v : AV) : Prop:=qG ops o E∧bW P Γ (aL Γ E) s (fun r s'=>r = v∧s' = s) o.op
def SV (P : Program) (Γ : Nat→List AV) (ops : Array Oper) (m : SM) (o : Oper) (E : Env) (s : AS) (v : AV) : Prop :=
  match m with
  | .val=>bY P Γ ops o E = some v
  | .Jq u=>v = u∧Fc P Γ ops o E s u
  | .all u=>v = u∧∀ s,Fc P Γ ops o E s u
  | .vQ=>False
def iV (P : Program) (Γ : Nat→List AV) (N : Nat) (ops : Array Oper) : List (Oper × SM)→(Env→AS→Prop)→Env→AS→Prop
  | [],K,E,s=>K E s
  | (o,m) :: rest,K,E,s =>
    if m.du = true then AX P Γ N ops [o] (iV P Γ N ops rest K) E s
    else (∀ d,o.dst = some d→d < N)∧∃ v,SV P Γ ops m o E s v∧iV P Γ N ops rest K (bu E o.dst v) s
theorem r7 {m : SM} {o : Oper} {E E' : Env} {v : AV} (h : ∀ d,d ∈ o.looksAt ops→E' d = E d) (hv : SV P Γ ops m o E s v) : SV P Γ ops m o E' s v:=by
  have gC : ∀ x ∈ o.op.operands,aL Γ E' x = aL Γ E x:=fun x hx=>by
    cases x with
    | tmp t=>exact h t (List.mem_append_left _ (List.mem_filterMap.2 ⟨.tmp t,by simpa using hx,rfl⟩))
    | const v=>rfl
    | global g=>rfl
    | func f=>rfl
  cases m with
  | Jq u=>exact ⟨hv.1,Ah h hv.2.1,(lD gC).2 hv.2.2⟩
  | all u=>exact ⟨hv.1,fun s=>⟨Ah h (hv.2 s).1,(lD gC).2 (hv.2 s).2⟩⟩
  | val=>exact (kH h).trans hv
  | vQ=>exact hv
theorem Am {m : SM} {o : Oper} {E : Env} {v v' : AV} (h : SV P Γ ops m o E s v) (h' : SV P Γ ops m o E s v') : v = v':=by
  cases m with
  | Jq u=>exact h.1.trans h'.1.symm
  | all u=>exact h.1.trans h'.1.symm
  | val=>exact Option.some.inj (Eq.trans (Eq.symm h) h')
  | vQ=>exact h.elim
theorem Bu {o : Oper} {m : SM} {L : List (Oper × SM)} {E : Env} {K : Env→AS→Prop} (h : iV P Γ N ops ((o,m) :: L) K E s) : AX P Γ N ops [o] (iV P Γ N ops L K) E s:=by
  cases m with
  | vQ=>simpa only [iV,SM.du,if_true] using h
  | Jq u =>
    simp only [iV,SM.du,Bool.false_eq_true,if_false] at h;obtain ⟨hd,v,⟨rfl,hg,hv⟩,h⟩:=h;refine (Jr hg).2 ?_;simp only [AX];exact ⟨hd,iI (fun r s' ⟨h1,h2⟩=>by subst h1 h2; exact h) hv⟩
  | all u =>
    simp only [iV,SM.du,Bool.false_eq_true,if_false] at h;obtain ⟨hd,v,⟨rfl,hg⟩,h⟩:=h;obtain ⟨hg,hv⟩:=hg s;refine (Jr hg).2 ?_;simp only [AX];exact ⟨hd,iI (fun r s' ⟨h1,h2⟩=>by subst h1 h2; exact h) hv⟩
  | val =>
    simp only [iV,SM.du,Bool.false_eq_true,if_false] at h;exact QX (m:=.val) (L:=[]) (K:=iV P Γ N ops L K) (by intro e; cases e) (by simpa only [QW,GV,SV,SM.du,Mk.du,Bool.false_eq_true,if_false] using h)
theorem Jt {o : Oper} {m : SM} {L : List (Oper × SM)} {E : Env} {a : Act} {K : Env→AS→Prop} (h : iV P Γ N ops ((o,m) :: L) K E s) (hr : Rel Γ N G E s a w) :
    ∃ G' E' s' a' w',Rel Γ N G' E' s' a' w'∧iV P Γ N ops L K E' s'∧(∀ i,o.dst≠some i→E' i = E i)∧(m.du = false→s' = s):=by
  cases hm : m.du with
  | true =>
    obtain ⟨G',E',s',a',w',h1,h2,h3⟩:=lF (Bu h) hr;exact ⟨G',E',s',a',w',h1,h2,h3,fun e=>by cases e⟩
  | false =>
    have h0:=h;simp only [iV,hm,Bool.false_eq_true,if_false] at h0;obtain ⟨hd,v,hv,h0⟩:=h0;have h1 : iV P Γ N ops [(o,m)] (fun E' s'=>s' = s∧E' = bu E o.dst v) E s:=by
      simp only [iV,hm,Bool.false_eq_true,if_false];exact ⟨hd,v,hv,by simp⟩
    obtain ⟨G',E',s',a',w',k1,⟨rfl,rfl⟩,k3⟩:=lF (Bu h1) hr;exact ⟨G',_,_,a',w',k1,h0,k3,fun _=>rfl⟩
def SM.free (x y : SM) : Bool:=x.isVal || y.isVal || (!x.du && !y.du)
theorem Dq {y : Oper} {m : SM} (hm : m.du = false) {L2 : List (Oper × SM)} {K : Env→AS→Prop} : ∀ (L1 : List (Oper × SM)) {G : Gh} {E : Env} {s : AS} {a : Act} {w : World},(∀ x ∈ L1,fb ops x.1 y∧x.2.free m = true)→iV P Γ N ops (L1 ++ (y,m) :: L2) K E s→Rel Γ N G E s a w →
    (∀ d,y.dst = some d→d < N)∧∃ v,SV P Γ ops m y E s v
  | [],G,E,s,a,w,_,h,hr=>by
    simp only [List.nil_append,iV,hm,Bool.false_eq_true,if_false] at h;obtain ⟨h1,v,h2,_⟩:=h;exact ⟨h1,v,h2⟩
  | (x,ex) :: L1,G,E,s,a,w,mb,h,hr=>by
    obtain ⟨Q0,HI⟩:=mb (x,ex) (by simp);obtain ⟨G',E',s',a',w',Bc,hK,hf,iG⟩:=Jt h hr;obtain ⟨h1,v,h2⟩:=Dq hm L1 (fun x hx=>mb x (List.mem_cons_of_mem _ hx)) hK Bc;have h3 : SV P Γ ops m y E s' v:=r7 (fun d hd=>(hf d fun e=>(Oper.apart_spec Q0).1 d e hd).symm) h2;refine ⟨h1,v,?_⟩;cases hx : ex.du with
    | false=>rw [iG hx] at h3; exact h3
    | true =>
      cases m with
      | val=>exact h3
      | all u=>exact h3
      | vQ=>cases hm
      | Jq u=>cases ex <;> simp_all [SM.free,SM.isVal,SM.du]
theorem lS {y : Oper} {m : SM} (hm : m.du = false) {L2 : List (Oper × SM)} {K : Env→AS→Prop} {v : AV} : ∀ (L1 : List (Oper × SM)) {E : Env} {s : AS},(∀ x ∈ L1,fb ops x.1 y∧x.2.free m = true)→SV P Γ ops m y E s v→iV P Γ N ops (L1 ++ (y,m) :: L2) K E s →
    iV P Γ N ops (L1 ++ L2) K (bu E y.dst v) s
  | [],E,s,_,hv,h=>by
    simp only [List.nil_append,iV,hm,Bool.false_eq_true,if_false] at h;obtain ⟨_,u,hu,h⟩:=h;rw [Am hv hu];exact h
  | (x,ex) :: L1,E,s,mb,hv,h=>by
    obtain ⟨Q0,HI⟩:=mb (x,ex) (by simp);obtain ⟨a1,a2,a3⟩:=Oper.apart_spec Q0;have pJ : ∀ x ∈ L1,fb ops x.1 y∧x.2.free m = true:=fun x hx=>mb x (List.mem_cons_of_mem _ hx);have OZ : ∀ E' : Env,(∀ i,x.dst≠some i→E' i = E i)→SV P Γ ops m y E' s v:=fun E' hE=>r7 (fun d hd=>hE d fun e=>a1 d e hd) hv;simp only [List.cons_append,iV] at h ⊢;split at h
    · rename_i he;rw [if_pos he];have hval : ∀ E' s',(∀ i,x.dst≠some i→E' i = E i)→SV P Γ ops m y E' s' v:=by
        intro E' s' hE;have:=OZ E' hE;cases m with
        | val=>exact this
        | all u=>exact this
        | vQ=>cases hm
        | Jq u=>cases ex <;> simp_all [SM.free,SM.isVal,SM.du]
      refine (tf (fun d hd=>a3 d hd) (fun d hd e=>a2 d e hd)).2 ?_;refine cJ _ (fun E' s' hE=>?_) (cR h);exact lS hm L1 pJ (hval E' s' hE.2) hE.1
    · rename_i he;rw [if_neg he];obtain ⟨h0,u,hu,h⟩:=h;refine ⟨h0,u,r7 (fun d hd=>cp fun e=>a3 d e hd) hu,?_⟩;rw [po (fun d h1 h2=>a2 d h2 h1)];exact lS hm L1 pJ (OZ _ fun i hi=>cp hi) h
theorem p8 {y : Oper} {L2 : List (Oper × SM)} {K : Env→AS→Prop} : ∀ (L1 : List (Oper × SM)) {E : Env} {s : AS},(∀ x ∈ L1,fb ops x.1 y∧x.2.free .vQ = true)→iV P Γ N ops (L1 ++ (y,.vQ) :: L2) K E s →
    AX P Γ N ops [y] (iV P Γ N ops (L1 ++ L2) K) E s
  | [],E,s,_,h=>by simpa only [List.nil_append,iV,SM.du,if_true] using h
  | (x,ex) :: L1,E,s,mb,h=>by
    obtain ⟨I7,hex⟩:=mb (x,ex) (by simp);obtain ⟨a1,a2,a3⟩:=Oper.apart_spec I7;have pJ : ∀ x ∈ L1,fb ops x.1 y∧x.2.free .vQ = true:=fun x hx=>mb x (List.mem_cons_of_mem _ hx);have he : ex.du = false:=(by cases ex <;> simp_all [SM.free,SM.isVal,SM.du]);have iG : ∀ (E' : Env) (s1 s2 : AS) (v : AV),SV P Γ ops ex x E' s1 v→SV P Γ ops ex x E' s2 v:=fun E' s1 s2 v h=>by
      cases ex <;> first | exact h | simp_all [SM.free,SM.isVal,SM.du]
    simp only [List.cons_append,iV,he,Bool.false_eq_true,if_false] at h;obtain ⟨h0,v,hv,h⟩:=h;have h1:=p8 L1 pJ h;have h2:=(tf (fun d hd=>a1 d hd) (fun d hd=>a2 d hd)).1 h1;refine cJ _ (fun E' s' hE=>?_) (cR h2);simp only [List.cons_append,iV,he,Bool.false_eq_true,if_false];exact ⟨h0,v,iG _ s _ _ (r7 (fun d hd=>hE.2 d fun e=>a3 d e hd) hv),hE.1⟩
theorem oK : ∀ (L : List (Oper × SM)) {K K' : Env→AS→Prop} {E : Env} {s : AS},(∀ E s,K E s→K' E s)→iV P Γ N ops L K E s→iV P Γ N ops L K' E s
  | [],K,K',E,s,hk,h=>hk _ _ h
  | x :: L,K,K',E,s,hk,h=>by
    simp only [iV] at h ⊢;split at h
    · rename_i he; rw [if_pos he]; exact cJ _ (fun E s h=>oK L hk h) h
    · rename_i he;rw [if_neg he];obtain ⟨h0,v,hv,h⟩:=h;exact ⟨h0,v,hv,oK L hk h⟩
theorem tB : ∀ (L : List (Oper × SM)) {K : Env→AS→Prop} {E : Env} {s : AS},iV P Γ N ops L K E s→iV P Γ N ops L (fun E' s'=>K E' s'∧∀ i,i ∉ ct (L.map (·.1))→E' i = E i) E s
  | [],K,E,s,h=>⟨h,fun _ _=>rfl⟩
  | (o,mm) :: L,K,E,s,h=>by
    have ir : ∀ i,i ∉ ct (((o,mm) :: L).map (·.1))→i ∉ ct (L.map (·.1))∧o.dst≠some i:=by
      intro i hi;simp only [ct,List.map_cons,List.filterMap_cons] at hi;refine ⟨fun hm=>hi ?_,fun e=>hi (by simp [e])⟩;simp only [ct] at hm;split
      · exact hm
      · exact List.mem_cons_of_mem _ hm
    simp only [iV] at h ⊢;split at h
    · rename_i he;rw [if_pos he];refine cJ _ (fun E' s' hE=>?_) (cR h);refine oK L (fun jq iq CR=>⟨CR.1,fun i hi=>?_⟩) (tB L hE.1);obtain ⟨m1,m2⟩:=ir i hi;rw [CR.2 i m1,hE.2 i m2]
    · rename_i he;rw [if_neg he];obtain ⟨h0,v,hv,h⟩:=h;refine ⟨h0,v,hv,oK L (fun jq iq CR=>⟨CR.1,fun i hi=>?_⟩) (tB L h)⟩;obtain ⟨m1,m2⟩:=ir i hi;rw [CR.2 i m1,cp m2]
def eT (ops : Array Oper) (mk : Nat→SM) (i : Nat) : Oper × SM:=((ops[i]?).getD default,mk i)
def YY (ops : Array Oper) (D : List Nat) (mk : Nat→SM) (x y i j : Nat) : Bool :=
  (D.getD j 0).testBit i || (((ops[i]?).getD default).apart ops ((ops[j]?).getD default) && (mk i).free (mk j)) || (i == x && j == y)
def YZ (R : Nat→Nat→Bool) : List Nat→Bool
  | []=>true
  | i :: l=>l.all (fun j=>R i j && i != j) && YZ R l
def tC (ops : Array Oper) (D : List Nat) (mk : Nat→SM) (x y : Nat) (π : List Nat) : Bool:=YZ (YY ops D mk x y) π && ((List.range ops.size).all fun i=>π.contains i) && π.all fun i=>decide (i < ops.size)
def rn (π : List Nat) (listed : Array Bool) : List Nat:=π.filter fun i=>!listed.getD i true
theorem Gr {R : Nat→Nat→Bool} {listed : Array Bool} {i : Nat} (hi : i < listed.size) (h0 : listed.getD i true = false) : ∀ {π : List Nat},YZ R π = true→i ∈ π →
    ∃ L1 L2,rn π listed = L1 ++ i :: L2∧rn π (listed.setIfInBounds i true) = L1 ++ L2∧∀ z ∈ L1,R z i = true∧z≠i∧listed.getD z true = false
  | [],_,h=>by cases h
  | k :: π,hp,hm=>by
    simp only [YZ,Bool.and_eq_true,List.all_eq_true,bne_iff_ne] at hp;obtain ⟨h1,h2⟩:=hp;have ck : ∀ z,z≠i→(listed.setIfInBounds i true).getD z true = listed.getD z true:=by
      intro z hz;simp only [Array.getD_eq_getD_getElem?];rw [Array.getElem?_setIfInBounds_ne (by omega)]
    have hsi : (listed.setIfInBounds i true).getD i true = true:=by
      simp [Array.getD_eq_getD_getElem?,hi]
    by_cases e : k = i
    · subst e;refine ⟨[],rn π listed,?_,?_,by simp⟩
      · simp only [rn,List.filter_cons,h0,Bool.not_false,if_true,List.nil_append]
      · simp only [rn,List.filter_cons,hsi,Bool.not_true,Bool.false_eq_true,if_false,List.nil_append];apply List.filter_congr;intro z hz;rw [ck z (fun q=>(h1 z hz).2 q.symm)]
    · obtain ⟨L1,L2,q1,q2,q3⟩:=Gr (R:=R) hi h0 h2 ((List.mem_cons.1 hm).resolve_left fun q=>e q.symm);cases hk : listed.getD k true with
      | true =>
        refine ⟨L1,L2,?_,?_,q3⟩
        · simp only [rn,List.filter_cons,hk,Bool.not_true,Bool.false_eq_true,if_false]; exact q1
        · simp only [rn,List.filter_cons,ck k e,hk,Bool.not_true,Bool.false_eq_true,if_false]; exact q2
      | false =>
        refine ⟨k :: L1,L2,?_,?_,?_⟩
        · simp only [rn,List.filter_cons,hk,Bool.not_false,if_true,List.cons_append]; rw [← q1]; rfl
        · simp only [rn,List.filter_cons,ck k e,hk,Bool.not_false,if_true,List.cons_append]; rw [← q2]; rfl
        · intro z hz;rcases List.mem_cons.1 hz with rfl | hz
          · have HA : i ∈ π:=(List.mem_cons.1 hm).resolve_left fun q=>e q.symm;exact ⟨(h1 i HA).1,e,hk⟩
          · exact q3 z hz
theorem Ju {D : List Nat} {mk : Nat→SM} {x y i j : Nat} {o : Oper} (ho : ops[j]? = some o) (h : YY ops D mk x y i j = true) : (D.getD j 0).testBit i = true∨(fb ops ((ops[i]?).getD default) o∧(mk i).free (mk j) = true)∨(i = x∧j = y):=by
  simp only [YY,Bool.or_eq_true,Bool.and_eq_true,beq_iff_eq,ho,Option.getD_some] at h;rcases h with (h | h) | h
  · exact .inl h
  · exact .inr (.inl h)
  · exact .inr (.inr h)
theorem HM {listed : Array Bool} (yJ : zO ops (Region.before ops).toList = true) (h : Region.ready .any ops listed = []) : left ops listed = []:=by
  cases hl : left ops listed with
  | nil=>rfl
  | cons i L =>
    exfalso;have hi : i ∈ left ops listed:=(by rw [hl]; simp);obtain ⟨h1,h2⟩:=mem_left.1 hi;have Be : ∀ j,j < i→listed.getD j true = true:=by
      intro j hj;cases CI : listed.getD j true with
      | true=>rfl
      | false =>
        exfalso;have Gf : j ∈ left ops listed:=mem_left.2 ⟨by omega,CI⟩;have hs : (left ops listed).Pairwise (· < ·):=by
          unfold left;exact List.Pairwise.filter _ List.pairwise_lt_range
        rw [hl] at hs Gf;rcases List.mem_cons.1 Gf with rfl | Gf
        · omega
        · have:=(List.pairwise_cons.1 hs).1 j Gf;omega
    have ho : ops[i]? = some ops[i]:=(by simp [h1]);have hr : i ∈ Region.ready .any ops listed:=by
      rw [mem_ready];refine ⟨h2,_,ho,fun e he hb=>?_⟩;have bI:=(iJ yJ ho).2 e (by simpa using he) hb;have:=Be _ bI;have eL : e.on < listed.size:=by
        rcases Nat.lt_or_ge e.on listed.size with h' | h'
        · exact h'
        · exfalso;have : listed.getD i true = true:=by
            simp [Array.getElem?_eq_none (show listed.size≤i by omega)]
          rw [h2] at this; cases this
      simpa [eL] using this
    rw [h] at hr;cases hr
def xl (ops : Array Oper) (mk : Nat→SM) (x y : Nat) (π1 π2 : List Nat) : Bool :=
  zO ops (Region.before ops).toList && tC ops (Region.before ops).toList mk x y π1 && (ops.size≤x || (tC ops (Region.before ops).toList mk y x π2 && x != y && (mk x).du && (mk y).du && x < ops.size && y < ops.size &&
    (List.range ops.size).all fun i=>!(mk i).du || i == x || i == y || ((Region.before ops).toList.getD i 0).testBit x))
theorem Bv {mk : Nat→SM} {x y : Nat} {π1 π2 : List Nat} {Q : Exit→Act→World→Prop} {K : Env→AS→Prop} (iz : xl ops mk x y π1 π2 = true) :
    ∀ (fuel : Nat) (listed : Array Bool) {G : Gh} {E : Env} {s : AS} {a : Act} {w : World},listed.size = ops.size→(left ops listed).length≤fuel →
      (∀ (i : Nat) (o : Oper),ops[i]? = some o→listed.getD i true = true→∀ e ∈ o.after.toList,Region.binds .any e = true→listed.getD e.on false = true) →
      ((listed.getD x true = false∧listed.getD y true = false∧iV P Γ N ops ((rn π1 listed).map (eT ops mk)) K E s∧iV P Γ N ops ((rn π2 listed).map (eT ops mk)) K E s) ∨
        ∃ π u v,tC ops (Region.before ops).toList mk u v π = true∧listed.getD u true = true∧iV P Γ N ops ((rn π listed).map (eT ops mk)) K E s)→Rel Γ N G E s a w →
      (∀ G' E' s' a' w',G.le G'→Rel Γ N G' E' s' a' w'→K E' s'→Q .normal a' w')→wpAnyIn (te rd) 0 P .any ops Q fuel listed a w:=by
  simp only [xl,Bool.and_eq_true,Bool.or_eq_true,decide_eq_true_eq] at iz
  obtain ⟨⟨yJ,O9⟩,Jv⟩:=iz
  simp only [tC,Bool.and_eq_true] at O9
  have bX : ∀ (listed : Array Bool),listed.size = ops.size→∀ {π : List Nat},Region.ready .any ops listed = []→rn π listed = []:=by
    intro listed eL π h
    have h1:=HM yJ h
    unfold rn
    rw [List.filter_eq_nil_iff]
    intro i _ hi
    have aX : listed.getD i true = false:=by simpa using hi
    have bI : i < ops.size:=by
      rw [← eL]
      rcases Nat.lt_or_ge i listed.size with q | q
      · exact q
      · simp [Array.getElem?_eq_none q] at aX
    have : i ∈ left ops listed:=mem_left.2 ⟨bI,aX⟩
    rw [h1] at this
    cases this
  have pK : ∀ (listed : Array Bool) {E : Env} {s : AS},listed.size = ops.size→Region.ready .any ops listed = [] →
      ((listed.getD x true = false∧listed.getD y true = false∧iV P Γ N ops ((rn π1 listed).map (eT ops mk)) K E s∧iV P Γ N ops ((rn π2 listed).map (eT ops mk)) K E s) ∨
        ∃ π u v,tC ops (Region.before ops).toList mk u v π = true∧listed.getD u true = true∧iV P Γ N ops ((rn π listed).map (eT ops mk)) K E s)→K E s:=by
    rintro listed E s eL h (⟨_,_,h1,_⟩ | ⟨π,_,_,_,_,h1⟩)
    · rwa [bX listed eL h] at h1
    · rwa [bX listed eL h] at h1
  intro fuel
  induction fuel with
  | zero =>
    intro listed G E s a w eL hlen eV h1 hr hq
    have hl : left ops listed = []:=List.eq_nil_of_length_eq_zero (by omega)
    have jr : Region.ready .any ops listed = []:=by
      cases QE : Region.ready .any ops listed with
      | nil=>rfl
      | cons i L =>
        exfalso
        have : i ∈ Region.ready .any ops listed:=by rw [QE]; simp
        rw [mem_ready] at this
        obtain ⟨h0,o,ho,_⟩:=this
        have : i ∈ left ops listed:=mem_left.2 ⟨(Array.getElem?_eq_some_iff.1 ho).1,h0⟩
        rw [hl] at this
        cases this
    exact ⟨jr,hq G E s a w (.refl G) hr (pK listed eL jr h1)⟩
  | succ fuel ih =>
    intro listed G E s a w eL hlen eV hI hr hq
    refine ⟨fun jr=>hq G E s a w (.refl G) hr (pK listed eL jr hI),fun i hi=>?_⟩
    obtain ⟨h0,o,ho,bR⟩:=mem_ready.1 hi
    have yK : i < ops.size:=(Array.getElem?_eq_some_iff.1 ho).1
    obtain ⟨M1,M2,q1,q2,_⟩:=wD eL yK h0
    have rL : ∀ (j : Nat) (oj : Oper),ops[j]? = some oj→(∀ e ∈ oj.after.toList,Region.binds .any e = true→listed.getD e.on false = true)→∀ l,((Region.before ops).toList.getD j 0).testBit l = true→listed.getD l false = true:=by
      intro j
      induction j using Nat.strongRecOn with
      | _ j Tt =>
        intro oj zQ hj l hl
        obtain ⟨d1,d2⟩:=iJ yJ zQ
        obtain ⟨e,he,hb,h1⟩:=d1 l hl
        have yB:=hj e he hb
        rcases h1 with rfl | h1
        · exact yB
        · have bI:=d2 e he hb
          have Tu : e.on < ops.size:=by
            have:=(Array.getElem?_eq_some_iff.1 zQ).1
            omega
          have CQ : ops[e.on]? = some ops[e.on]:=by simp [Tu]
          refine Tt e.on bI _ CQ (eV e.on _ CQ ?_) l h1
          have : e.on < listed.size:=by omega
          simpa [this] using yB
    have YU : ∀ z,listed.getD z true = false→((Region.before ops).toList.getD i 0).testBit z = true→False:=by
      intro z hz hb
      have h3:=rL i o ho (fun e he hb=>bR e (by simpa using he) hb) z hb
      rcases Nat.lt_or_ge z listed.size with q | q
      · simp [q] at h3 hz
        rw [hz] at h3; cases h3
      · simp [Array.getElem?_eq_none q] at h3
    have ck : ∀ z,(listed.setIfInBounds i true).getD z true = if z = i then true else listed.getD z true:=by
      intro z
      simp only [Array.getD_eq_getD_getElem?]
      by_cases e : z = i
      · subst e; rw [if_pos rfl]; simp [eL,yK]
      · rw [if_neg e,Array.getElem?_setIfInBounds_ne (by omega)]
    have se : ∀ {G' : Gh} {E' : Env} {s' : AS} {a' : Act} {w' : World},G.le G' →
        (((listed.setIfInBounds i true).getD x true = false∧(listed.setIfInBounds i true).getD y true = false∧iV P Γ N ops ((rn π1 (listed.setIfInBounds i true)).map (eT ops mk)) K E' s'∧iV P Γ N ops ((rn π2 (listed.setIfInBounds i true)).map (eT ops mk)) K E' s') ∨
          ∃ π u v,tC ops (Region.before ops).toList mk u v π = true∧(listed.setIfInBounds i true).getD u true = true∧iV P Γ N ops ((rn π (listed.setIfInBounds i true)).map (eT ops mk)) K E' s')→Rel Γ N G' E' s' a' w'→wpAnyIn (te rd) 0 P .any ops Q fuel (listed.setIfInBounds i true) a' w':=by
      intro G' E' s' a' w' hle g1 Bc
      refine ih (listed.setIfInBounds i true) (by simpa using eL) ?_ ?_ g1 Bc (fun uB jq iq yH vn k1 k2 k3=>hq uB jq iq yH vn (hle.trans k1) k2 k3)
      · rw [q2]
        rw [q1] at hlen
        simp at hlen ⊢
        omega
      · intro j oj zQ hj e he hb
        by_cases Eu : j = i
        · subst Eu
          rw [ho] at zQ; cases zQ
          exact getD_set_true (bR e (by simpa using he) hb)
        · rw [getD_set_ne true (Ne.symm Eu)] at hj
          exact getD_set_true (eV j oj zQ hj e he hb)
    have gC : eT ops mk i = (o,mk i):=by simp [eT,ho]
    -- a list, with the place i taken out of it
    have ln : ∀ {π : List Nat} {u v : Nat},tC ops (Region.before ops).toList mk u v π = true→(v≠i∨listed.getD u true = true)→∃ L1 L2,rn π listed = L1 ++ i :: L2∧rn π (listed.setIfInBounds i true) = L1 ++ L2 ∧
        ∀ z ∈ L1.map (eT ops mk),fb ops z.1 o∧z.2.free (mk i) = true:=by
      intro π u v hπ hv
      simp only [tC,Bool.and_eq_true,List.all_eq_true] at hπ
      have him : i ∈ π:=by
        have:=hπ.1.2 i (by simpa using yK)
        simpa using this
      obtain ⟨L1,L2,w1,w2,w3⟩:=Gr (R:=YY ops (Region.before ops).toList mk u v) (by omega) h0 hπ.1.1 him
      refine ⟨L1,L2,w1,w2,fun z hz=>?_⟩
      obtain ⟨j,hj,rfl⟩:=List.mem_map.1 hz
      obtain ⟨j1,j2,j3⟩:=w3 j hj
      rcases Ju ho j1 with k | k | ⟨k1,k2⟩
      · exact (YU j j3 k).elim
      · exact k
      · rcases hv with hv | hv
        · exact absurd k2.symm hv
        · rw [k1,hv] at j3; cases j3
    have Fe : tC ops (Region.before ops).toList mk x y π1 = true:=by simp only [tC,Bool.and_eq_true]; exact O9
    -- the place i taken first, in one list
    have eh : ∀ {π : List Nat} {u v : Nat},tC ops (Region.before ops).toList mk u v π = true→(v≠i∨listed.getD u true = true)→iV P Γ N ops ((rn π listed).map (eT ops mk)) K E s →
        AX P Γ N ops [o] (iV P Γ N ops ((rn π (listed.setIfInBounds i true)).map (eT ops mk)) K) E s ∧
        ((mk i).du = false→(∀ d,o.dst = some d→d < N)∧∃ v,SV P Γ ops (mk i) o E s v∧iV P Γ N ops ((rn π (listed.setIfInBounds i true)).map (eT ops mk)) K (bu E o.dst v) s):=by
      intro π u v hπ hv h
      obtain ⟨L1,L2,w1,w2,w3⟩:=ln hπ hv
      rw [w1,List.map_append,List.map_cons,gC] at h
      rw [w2,List.map_append]
      cases hf : (mk i).du with
      | false =>
        obtain ⟨hd,v,hv⟩:=Dq hf _ w3 h hr
        have h1:=lS hf _ w3 hv h
        refine ⟨Bu (m:=mk i) ?_,fun _=>⟨hd,v,hv,h1⟩⟩
        simp only [iV,hf,Bool.false_eq_true,if_false]
        exact ⟨hd,v,hv,h1⟩
      | true =>
        have hme : mk i = .vQ:=by
          cases hm : mk i with
          | vQ=>rfl
          | val=>rw [hm] at hf; cases hf
          | Jq u=>rw [hm] at hf; cases hf
          | all u=>rw [hm] at hf; cases hf
        rw [hme] at h w3
        exact ⟨p8 _ w3 h,fun e=>by cases e⟩
    rcases hI with ⟨hx,hy,r1,r2⟩ | ⟨π,u,v,hπ,hu,r1⟩
    · have Tw : ¬ ops.size≤x:=by
        intro q
        rw [Array.getD_eq_getD_getElem?,Array.getElem?_eq_none (by omega)] at hx
        cases hx
      rcases Jv with q | q
      · exact absurd q Tw
      simp only [Bool.and_eq_true,bne_iff_ne,List.all_eq_true,decide_eq_true_eq] at q
      obtain ⟨⟨⟨⟨⟨⟨o2,TR⟩,ex⟩,ey⟩,_⟩,_⟩,lQ⟩:=q
      by_cases ix : i = x
      · subst ix
        exact iS (L:=[]) ho (eh Fe (.inl (Ne.symm TR)) r1).1 hr fun G' E' s' a' w' k1 k2 k3=>se k1 (.inr ⟨π1,i,y,Fe,by rw [ck,if_pos rfl],k3⟩) k2
      by_cases iy : i = y
      · subst iy
        exact iS (L:=[]) ho (eh o2 (.inl TR) r2).1 hr fun G' E' s' a' w' k1 k2 k3=>se k1 (.inr ⟨π2,i,x,o2,by rw [ck,if_pos rfl],k3⟩) k2
      cases hf : (mk i).du with
      | true =>
        have:=lQ i (by simpa using yK)
        simp only [hf,Bool.not_true,Bool.false_or,Bool.or_eq_true,beq_iff_eq] at this
        rcases this with (k | k) | k
        · exact absurd k ix
        · exact absurd k iy
        · exact (YU x hx k).elim
      | false =>
        obtain ⟨hd,v1,Y0,g1⟩:=(eh Fe (.inl (Ne.symm iy)) r1).2 hf
        obtain ⟨_,v2,hv2,g2⟩:=(eh o2 (.inl (Ne.symm ix)) r2).2 hf
        obtain rfl:=Am Y0 hv2
        have hX : iV P Γ N ops [(o,mk i)] (fun E' s'=>iV P Γ N ops ((rn π1 (listed.setIfInBounds i true)).map (eT ops mk)) K E' s'∧iV P Γ N ops ((rn π2 (listed.setIfInBounds i true)).map (eT ops mk)) K E' s') E s:=by
          simp only [iV,hf,Bool.false_eq_true,if_false]
          exact ⟨hd,v1,Y0,g1,g2⟩
        exact iS (L:=[]) ho (Bu hX) hr fun G' E' s' a' w' k1 k2 k3=>se k1 (.inl ⟨by rw [ck,if_neg (Ne.symm ix)]; exact hx,by rw [ck,if_neg (Ne.symm iy)]; exact hy,k3.1,k3.2⟩) k2
    · exact iS (L:=[]) ho (eh hπ (.inr hu) r1).1 hr fun G' E' s' a' w' k1 k2 k3=>se k1 (.inr ⟨π,u,v,hπ,by rw [ck]; split; rfl; exact hu,k3⟩) k2
theorem sf {E : Env} {Q : Exit→Env→AS→Prop} (hm : P.follows .mixedOrders = true) {mk : Nat→SM} {x y : Nat} {π1 π2 : List Nat} {id : Nat} (iz : xl ops mk x y π1 π2 = true)
    (h1 : iV P Γ N ops (π1.map (eT ops mk)) (fun E' s'=>Q .normal E' s') E s) (h2 : x < ops.size→iV P Γ N ops (π2.map (eT ops mk)) (fun E' s'=>Q .normal E' s') E s) : ch P Γ N (.region id ops true) Q E s:=by
  intro G a w hr;refine wpIn_region_any hm ?_;have Bc : Rel Γ N G E s a w.drew:=⟨hr.st.drew,hr.size,hr.tmps,hr.defers⟩;have fJ : ∀ i,(Array.replicate ops.size false).getD i true = decide (ops.size≤i):=by
    intro i;rw [Array.getD_eq_getD_getElem?,Array.getElem?_replicate];by_cases h : i < ops.size
    · rw [if_pos h,decide_eq_false (by omega)]; rfl
    · rw [if_neg h,decide_eq_true (by omega)]; rfl
  have hlen : (left ops (Array.replicate ops.size false)).length≤ops.size:=by
    unfold left;exact Nat.le_trans (List.length_filter_le _ _) (by simp)
  have xag:=iz;simp only [xl,Bool.and_eq_true,Bool.or_eq_true,decide_eq_true_eq,tC,List.all_eq_true] at iz;obtain ⟨⟨_,hp1⟩,Jv⟩:=iz;have key : ∀ {π : List Nat},(∀ i ∈ π,i < ops.size)→iV P Γ N ops (π.map (eT ops mk)) (fun E' s'=>Q .normal E' s') E s →
      iV P Γ N ops ((rn π (Array.replicate ops.size false)).map (eT ops mk)) (fun E' s'=>Q .normal E' s'∧∀ i,i ∉ ct ops.toList→E' i = E i) E s:=by
    intro π bI h;have e : rn π (Array.replicate ops.size false) = π:=by
      unfold rn;rw [List.filter_eq_self];intro i hi;have:=bI i hi;rw [fJ,decide_eq_false (by omega)];rfl
    rw [e];refine oK _ (fun E' s' k=>⟨k.1,fun i hi=>k.2 i fun hm=>hi ?_⟩) (tB _ h);simp only [ct,List.mem_filterMap,List.mem_map] at hm ⊢;obtain ⟨o,⟨_,⟨j,hj,rfl⟩,rfl⟩,hd⟩:=hm;have CI:=bI j hj;refine ⟨_,?_,hd⟩;simp [eT,CI]
  refine Bv (K:=fun E' s'=>Q .normal E' s'∧∀ i,i ∉ ct ops.toList→E' i = E i) xag ops.size (Array.replicate ops.size false) (by simp) hlen ?_ ?_ Bc ?_
  · intro i o ho hl;have : i < ops.size:=(Array.getElem?_eq_some_iff.1 ho).1;simp [this] at hl
  · by_cases hx : ops.size≤x
    · exact .inr ⟨π1,x,y,by simp only [tC,Bool.and_eq_true,List.all_eq_true,decide_eq_true_eq]; exact hp1,by rw [fJ,decide_eq_true hx],key hp1.2 h1⟩
    · rcases Jv with q | q
      · exact absurd q hx
      obtain ⟨⟨⟨⟨⟨⟨Ew,_⟩,_⟩,_⟩,_⟩,hy⟩,_⟩:=q;exact .inl ⟨by rw [fJ,decide_eq_false hx],by rw [fJ,decide_eq_false (by omega)],key hp1.2 h1,key Ew.2 (h2 (by omega))⟩
  · intro G' E' s' a' w' k1 k2 k3;exact ⟨G',E',s',k1,k2,k3.1,fun i hi=>k3.2 i hi⟩
def mkS (fl : List Nat) (gv : List (Nat × AV)) (i : Nat) : SM:=if fl.contains i = true then .vQ else match nF gv i with | some v=>.Jq v | none=>match nF gv (i + 1000) with | some v=>.all v | none=>.val
def An (P : Program) (Γ : Nat→List AV) (N : Nat) (ops : Array Oper) (o : Oper) (s : AS) (v : AV) (C : Env→Prop) (E : Env) : Prop:=(∀ d,o.dst = some d→d < N)∧Fc P Γ ops o E s v∧C (bu E o.dst v)
def Jw (P : Program) (Γ : Nat→List AV) (k : FuncId) (xs : List AV) (s : AS) (v : AV) (c : Prop) : Prop:=ai P Γ k xs s (fun r s'=>r = v∧s' = s)∧c
theorem mY {dst : Option Tmp} {k : FuncId} {args : Array Operand} {aT : Array TypeId} {ty : TypeId} {pos : String} {after : Array Edge} {gd : Option (Nat × Bool)} {v : AV} {C : Env→Prop} {E : Env} :
    An P Γ N ops { dst:=dst,op:=.call { callee:=.value (.func k),args:=args,argTypes:=aT },type:=ty,pos:=pos,after:=after,guard:=gd } s v C E =
      ((∀ d,dst = some d→d < N)∧qG ops { dst:=dst,op:=.call { callee:=.value (.func k),args:=args,argTypes:=aT },type:=ty,pos:=pos,after:=after,guard:=gd } E∧af P k = true∧Jw P Γ k (args.toList.map (aL Γ E)) s v (C (bu E dst v))):=by
  apply propext;simp only [An,Fc,Jw,bW,cy,cT,aL];constructor
  · rintro ⟨h1,⟨h2,h3⟩,h4⟩;exact ⟨h1,h2,h3.2.2.1,h3.2.2.2,h4⟩
  · rintro ⟨h1,h2,h3,h4,h5⟩;exact ⟨h1,⟨h2,rfl,rfl,h3,h4⟩,h5⟩
theorem mZ {dst : Option Tmp} {T : TypeId} {x : Operand} {ty : TypeId} {pos : String} {after : Array Edge} {gd : Option (Nat × Bool)} {v : AV} {C : Env→Prop} {E : Env} :
    An P Γ N ops { dst:=dst,op:=.load T x,type:=ty,pos:=pos,after:=after,guard:=gd } s v C E =
      ((∀ d,dst = some d→d < N)∧qG ops { dst:=dst,op:=.load T x,type:=ty,pos:=pos,after:=after,guard:=gd } E∧bW P Γ (aL Γ E) s (fun r s'=>r = v∧s' = s) (.load T x)∧C (bu E dst v)):=by
  apply propext;simp only [An,Fc,and_assoc]
def Gs (P : Program) (Γ : Nat→List AV) (N : Nat) (ops : Array Oper) (o : Oper) (v : AV) (C : Env→Prop) (E : Env) : Prop:=(∀ d,o.dst = some d→d < N)∧(∀ s,Fc P Γ ops o E s v)∧C (bu E o.dst v)
def Ff (P : Program) (Γ : Nat→List AV) (k : FuncId) (xs : List AV) (v : AV) (c : Prop) : Prop:=(∀ s,ai P Γ k xs s (fun r s'=>r = v∧s' = s))∧c
theorem Gt {k : FuncId} {xs : List AV} {v : AV} {c : Prop} (h : ∀ s,ai P Γ k xs s (fun r s'=>r = v∧s' = s)) (hc : c) : Ff P Γ k xs v c:=⟨h,hc⟩
theorem m6 {dst : Option Tmp} {k : FuncId} {args : Array Operand} {aT : Array TypeId} {ty : TypeId} {pos : String} {after : Array Edge} {gd : Option (Nat × Bool)} {v : AV} {C : Env→Prop} {E : Env} :
    Gs P Γ N ops { dst:=dst,op:=.call { callee:=.value (.func k),args:=args,argTypes:=aT },type:=ty,pos:=pos,after:=after,guard:=gd } v C E =
      ((∀ d,dst = some d→d < N)∧qG ops { dst:=dst,op:=.call { callee:=.value (.func k),args:=args,argTypes:=aT },type:=ty,pos:=pos,after:=after,guard:=gd } E∧af P k = true∧Ff P Γ k (args.toList.map (aL Γ E)) v (C (bu E dst v))):=by
  apply propext;simp only [Gs,Fc,Ff,bW,cy,cT,aL];constructor
  · rintro ⟨h1,h2,h4⟩;exact ⟨h1,(h2 ⟨fun _=>none,fun _=>none⟩).1,(h2 ⟨fun _=>none,fun _=>none⟩).2.2.2.1,fun s=>(h2 s).2.2.2.2,h4⟩
  · rintro ⟨h1,h2,h3,h4,h5⟩;exact ⟨h1,fun s=>⟨h2,rfl,rfl,h3,h4 s⟩,h5⟩
def Dr (P : Program) (Γ : Nat→List AV) (N : Nat) (L : List Oper) (fl : List Nat) (gv : List (Nat × AV)) : List Nat→(Env→AS→Prop)→Env→AS→Prop
  | [],K,E,s=>K E s
  | i :: π,K,E,s =>
    if fl.contains i = true then AX P Γ N L.toArray [L.getD i default] (Dr P Γ N L fl gv π K) E s
    else match nF gv i with
      | some v=>An P Γ N L.toArray (L.getD i default) s v (fun E=>Dr P Γ N L fl gv π K E s) E
      | none=>match nF gv (i + 1000) with
      | some v=>Gs P Γ N L.toArray (L.getD i default) v (fun E=>Dr P Γ N L fl gv π K E s) E
      | none=>((∀ d,(L.getD i default).dst = some d→d < N)∧match bY P Γ L.toArray (L.getD i default) E with | some v=>Dr P Γ N L fl gv π K (bu E (L.getD i default).dst v) s | none=>False)
theorem Jx : ∃ f : Program→(Nat→List AV)→Nat→List Oper→List Nat→List (Nat × AV)→List Nat→(Env→AS→Prop)→Env→AS→Prop,f = Dr:=⟨_,rfl⟩
noncomputable def Pb : Program→(Nat→List AV)→Nat→List Oper→List Nat→List (Nat × AV)→List Nat→(Env→AS→Prop)→Env→AS→Prop:=Classical.choose Jx
theorem axw : Pb = Dr:=Classical.choose_spec Jx
theorem vT {L : List Oper} {fl : List Nat} {gv : List (Nat × AV)} {K : Env→AS→Prop} {E : Env} : Pb P Γ N L fl gv [] K E s = K E s:=by rw [axw]; rfl
theorem sg {L : List Oper} {fl : List Nat} {gv : List (Nat × AV)} {i : Nat} {π : List Nat} {K : Env→AS→Prop} {E : Env} : Pb P Γ N L fl gv (i :: π) K E s =
    if fl.contains i = true then AY P Γ N L.toArray [L.getD i default] (Pb P Γ N L fl gv π K) E s
    else match nF gv i with
      | some v=>An P Γ N L.toArray (L.getD i default) s v (fun E=>Pb P Γ N L fl gv π K E s) E
      | none=>match nF gv (i + 1000) with
      | some v=>Gs P Γ N L.toArray (L.getD i default) v (fun E=>Pb P Γ N L fl gv π K E s) E
      | none=>((∀ d,(L.getD i default).dst = some d→d < N)∧match bY P Γ L.toArray (L.getD i default) E with | some v=>Pb P Γ N L fl gv π K (bu E (L.getD i default).dst v) s | none=>False):=by rw [axw,ay]; rfl
theorem Ds {L : List Oper} {fl : List Nat} {gv : List (Nat × AV)} {K : Env→AS→Prop} : ∀ (π : List Nat) {E : Env} {s : AS},Dr P Γ N L fl gv π K E s→iV P Γ N L.toArray (π.map (eT L.toArray (mkS fl gv))) K E s
  | [],E,s,h=>h
  | i :: π,E,s,h=>by
    have ho : (L.toArray[i]?).getD default = L.getD i default:=(by simp [List.getD]);simp only [Dr] at h;simp only [List.map_cons,iV,eT,ho,mkS];cases hf : fl.contains i with
    | true =>
      rw [hf] at h;simp only [if_true,SM.du] at h ⊢;exact cJ _ (fun E' s' hE=>Ds π hE) h
    | false =>
      rw [hf] at h;simp only [Bool.false_eq_true,if_false] at h ⊢;cases hg : nF gv i with
      | some v =>
        rw [hg] at h;simp only [SM.du,Bool.false_eq_true,if_false];obtain ⟨h1,h2,h3⟩:=h;exact ⟨h1,v,⟨rfl,h2⟩,Ds π h3⟩
      | none =>
        rw [hg] at h;cases MT : nF gv (i + 1000) with
        | some v =>
          rw [MT] at h;simp only [MT,SM.du,Bool.false_eq_true,if_false];obtain ⟨h1,h2,h3⟩:=h;exact ⟨h1,v,⟨rfl,h2⟩,Ds π h3⟩
        | none =>
          rw [MT] at h;simp only [MT,SM.du,Bool.false_eq_true,if_false];refine ⟨h.1,?_⟩;have h:=h.2;split at h
          · rename_i v hv;exact ⟨v,hv,Ds π h⟩
          · exact h.elim
theorem oL {E : Env} {Q : Exit→Env→AS→Prop} (hm : P.follows .mixedOrders = true) (fl : List Nat) (gv : List (Nat × AV)) (π : List Nat) {id : Nat} {L : List Oper} {y : Code} (iz : xl L.toArray (mkS fl gv) L.length 0 π [] = true)
    (h : ∀ K : Env→AS→Prop,(∀ E s,ch P Γ N y Q E s→K E s)→Pb P Γ N L fl gv π K E s) : ch P Γ N (.seq (.region id L.toArray true) y) Q E s:=by
  refine ke (sf hm iz (Ds π ?_) (fun q=>absurd q (by simp)));have:=h _ (fun _ _ h=>h);rwa [axw] at this
end Go.AM
