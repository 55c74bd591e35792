/- An abstract machine for the model and the rules of its walk, each proved sound over the model; no condition. -/
import Derived.Test.YtbiefppedlodiaaGreatDoorAMp6
import Derived.Shelf.Spec.SlicesInsertGrow
set_option linter.unusedSimpArgs false
set_option linter.unusedVariables false
namespace Go.AM
open Go Go.RowKit
variable{P:Program}{Γ:Nat→List AV}{G:Gh}{s:AS}{w:World}{N:Nat}
theorem uC(need old:Nat)(e:TypeId)(x:Nat)(h:need<2^63):(Question.appendCap need old e).cut x<2^63:=by
  have bJ:=Nat.mod_lt x (show 0<2^63-need by omega);simp only[Question.cut];omega
theorem uD{m:Nat}{u:Value}(eD:∀w',(Builtin.lenOf u).run P w'=.ok m w'){T xT e:TypeId}(hT:P.underlying T=some (.slice e))(hx:kH P (some xT)=true)
    {z:List AV} (he:px P e z)
    {base:Option Addr} {n cap:Nat} {olds news:List Value} (hold:∀w',(∀b j,w'.cell? ⟨b,j,none⟩=w.cell? ⟨b,j,none⟩)→(Builtin.firstCells (P.cellsOf e) n (.slice base n cap)).run P w'=.ok olds.toArray w')
    (lB:∀w',(∀b j,w'.cell? ⟨b,j,none⟩=w.cell? ⟨b,j,none⟩)→(Builtin.firstCells (P.cellsOf e) m u).run P w'=.ok news.toArray w')
    (hg:cap<n+m) (cu:(n+m)*P.bytesOf e≤2^46) (Db:n+m≤2^46) (ty:TypeId):
    ∃(kM:Nat)(rest:List Value),n+m≤kM∧kM<2^63∧rest.length=(kM-(n+m))*P.cellsOf e∧
      (Builtin.append_ #[T,xT] ty #[.slice base n cap,u]).run P w=.ok (.slice (some ⟨w.heap.size,0,none⟩) (n+m) kM) (w.drew.alloc (.cells ((olds++news)++rest).toArray e)):=by
  obtain⟨hz,eR,sA⟩:=he;obtain⟨zv,JP,xp⟩:=dA hz;obtain⟨i,hi⟩:=eQ eR;have hb:P.bytesOf e=i.bytes:=(by simp[Program.bytesOf,hi]);have Hp:∀w',(typeInfo e).run P w'=.ok i w':=(fun w'=>by simp[typeInfo,hi]);have RJ:¬(n+m≤cap):=(by omega);have nK:¬(9223372036854775807<(n:Int)+(m:Int)):=(by omega);have um:=nextslicecap_le (need:=n+m) (old:=cap) hg;have nL:¬(2^48<Builtin.nextslicecap (n+m) cap*i.bytes):=by
    rw[hb] at cu;have h2:Builtin.nextslicecap (n+m) cap*i.bytes≤2*(n+m)*i.bytes:=Nat.mul_le_mul_right _ um;rw[Nat.mul_assoc] at h2;omega
  have sA:zv.cells.size=P.cellsOf e:=by
    rw[xp] at sA;simpa using sA
  have xr:=hold w.drew (fun b j=>rfl);have hn1:=lB w.drew (fun b j=>rfl);refine⟨_,(Builtin.zeroCells zv.cells ((Question.appendCap (n+m) cap e).cut (w.tape w.drawn (.appendCap (n+m) cap e))-(n+m))).toList,eS (n+m) cap e (w.tape w.drawn (.appendCap (n+m) cap e)),uC (n+m) cap e (w.tape w.drawn (.appendCap (n+m) cap e)) (by omega),?_,?_⟩
  · simp[Builtin.zeroCells,sA]
  · have hf:(Question.appendCap (n+m) cap e).forced=false:=rfl;rcases nJ hx with⟨e',hx⟩|hx;all_goals
      simp[Builtin.append_,run_underlying hT,aS eR,run_underlying hx,eD,RJ,Hp,nK,nL,hf,xr,hn1,JP,newRow];congr 2;apply Array.ext';simp[List.append_assoc]
def ni(sz:Nat)(s:AS)(x:AV)(n:Nat)(cs:List AV):Prop:=
  (n=0∧cs=[]∧(x=bL∨x=.sl sz 0 [] .full∨x=.sl sz 0 [] .new))∨
    ∃o cap rest,x=.gR o 0 sz n cap∧s.aw o=some (cs++rest)∧cs.length=n*sz∧rest.length=(cap-n)*sz∧n≤cap∧cap<2^63
theorem pJ:∀(ds cs rest:List AV),ds.length≤rest.length→bn (cs++rest) cs.length ds=cs++ds++rest.drop ds.length
  |[],cs,rest,_=>by simp[bn]
  |d::ds,cs,rest,h=>by
    cases rest with
    |nil=>simp at h
    |cons r rest=>
      simp only[bn];have e:(cs++r::rest).set cs.length d=(cs++[d])++rest:=(by simp);have:=pJ ds (cs++[d]) rest (by simpa using h);rw[List.length_append,List.length_singleton] at this;rw[e,this];simp
theorem uE{x y:AV}{u v:Value}{m n:Nat}{cs ds:List AV}{T xT e:TypeId}{z:List AV}(hT:P.underlying T=some (.slice e))(hx:kH P (some xT)=true)(he:px P e z)
    (eD:gX (P.cellsOf e) s y=some (m,ds)) (hm:m≠0) (h1:(n+m)*P.bytesOf e≤2^46) (h2:n+m≤2^46) (kO:ds.all AV.one=true) (hb:ni (P.cellsOf e) s x n cs)
    (ph:av G x u) (wh:av G y v) (hs:aP Γ G s w) (ty:TypeId):
    ∃G' r w' o cap rest,(Builtin.append_ #[T,xT] ty #[u,v]).run P w=.ok r w'∧G.le G'∧n+m≤cap∧cap<2^63∧rest.length=(cap-(n+m))*P.cellsOf e∧(s.aw o=none∨∃rF,x=.gR o 0 (P.cellsOf e) n rF)∧
      aP Γ G' (s.set o (cs++ds++rest)) w'∧av G' (.gR o 0 (P.cellsOf e) (n+m) cap) r:=by
  obtain⟨us,hv,hlen,iR,fk⟩:=rq (P:=P) eD wh hs;have Fs:=hv.length;have grow:∀(base:Option Addr)(cap:Nat)(vs:List Value),au G cs vs→cap<n+m→
      (∀w',(∀b j,w'.cell? ⟨b,j,none⟩=w.cell? ⟨b,j,none⟩)→(Builtin.firstCells (P.cellsOf e) n (.slice base n cap)).run P w'=.ok vs.toArray w')→
      ∃G' r w' o kM rest,(Builtin.append_ #[T,xT] ty #[.slice base n cap,v]).run P w=.ok r w'∧G.le G'∧n+m≤kM∧kM<2^63∧rest.length=(kM-(n+m))*P.cellsOf e∧(s.aw o=none∨∃rF,x=.gR o 0 (P.cellsOf e) n rF)∧
        aP Γ G' (s.set o (cs++ds++rest)) w'∧av G' (.gR o 0 (P.cellsOf e) (n+m) kM) r:=by
    intro base cap vs Ft bJ hold;obtain⟨kM,rest,wX,hc3,zx,lA⟩:=uD (P:=P) (w:=w) iR hT hx he (base:=base) (n:=n) (cap:=cap) (olds:=vs) (news:=us) hold fk bJ h1 h2 ty;obtain⟨o,k1,k2,k3,k4⟩:=hs.drew.newObj (cs:=(cs++ds)++rest.map .v) (vs:=(vs++us)++rest) ((Ft.append hv).append (au.Dk rest)) e;refine⟨_,_,_,o,kM,rest.map .v,lA,k2,wX,hc3,by simpa using zx,.inl k1,k3,?_⟩;simp only[av];exact⟨_,k4,rfl,wX⟩
  rcases hb with⟨rfl,rfl,rfl|rfl|rfl⟩|⟨o,cap,rest,rfl,ho,iF,uF,_,Db⟩
  · simp only[bL,av] at ph;subst ph;exact grow none 0 [] (by simp[au]) (by omega) (fun w' _=>run_firstCells_none w' _ _ _ _)
  · simp only[av] at ph;rcases ph with⟨b,off,cap,vs,rfl,hl,_,FT,qe,rn⟩|⟨_,_,a,cap,rfl,xt⟩|⟨_,_,h,_⟩
    · simp only[ep] at rn;subst rn;exact grow _ 0 [] (by simp[au]) (by omega) (fun w' _=>run_firstCells_some w' _ _ _ _ _ [] (by simp) (by simp))
    · rcases xt with h|h|⟨_,rfl⟩
      · cases h
      · cases h
      · exact grow _ 0 [] (by simp[au]) (by omega) (fun w' _=>run_firstCells_some w' _ _ _ _ _ [] (by simp) (by simp))
    · cases h
  · simp only[av] at ph;rcases ph with⟨b,off,cap,vs,rfl,hl,_,FT,qe,rn⟩|⟨_,_,a,cap,rfl,xt⟩|⟨_,_,h,_⟩
    · simp only[ep] at rn;obtain⟨rfl,_⟩:=rn;exact grow _ 0 [] (by simp[au]) (by omega) (fun w' _=>run_firstCells_some w' _ _ _ _ _ [] (by simp) (by simp))
    · rcases xt with h|h|⟨h,_⟩<;>cases h
    · cases h
  · have NW:=ph;simp only[av] at ph;obtain⟨b,w9,rfl,BQ⟩:=ph;obtain⟨b',vs,q1,q2,q3,q4⟩:=hs.aw o _ ho;rw[w9] at q1;cases q1;have Qn:=q2.length;have Ft:=q2.take cs.length;rw[List.take_left] at Ft;have BM:=Ft.length;rcases Nat.lt_or_ge cap (n+m) with bJ|cl
    · refine grow _ cap (vs.take cs.length) Ft bJ (fun w' RI=>?_);refine run_firstCells_some w' _ _ _ _ _ _ (by omega) (fun j x hj=>?_);rw[cA,RI];rw[List.getElem?_take] at hj;split at hj
      · rw[Nat.zero_add];exact(q4 j x hj).1
      · cases hj
    · have Oe:m*P.cellsOf e≤(cap-n)*P.cellsOf e:=Nat.mul_le_mul_right _ (by omega);have J6:cs.length+ds.length≤(cs++rest).length:=(by rw[List.length_append,uF,Fs,hlen];omega);obtain⟨f1,f2,f3⟩:=kP hs ho w9 (off:=cs.length) J6 hv;rw[pJ ds cs rest (by rw[Fs,hlen,uF];exact Oe)] at f3;rw[iF] at f1 f2 f3;have lA:=qE (P:=P) (w:=w) (n:=n) (m:=m) (cap:=cap) (off:=0) (b:=b) iR hT hx he.2.1 (fk w (fun _ _=>rfl)) (by rw[Nat.zero_add];exact f1) (by rw[Nat.zero_add];exact f2) (lC hv kO) cl ty;rw[Nat.zero_add] at lA;refine⟨G,_,_,o,cap,_,lA,.refl G,cl,Db,?_,.inr ⟨cap,rfl⟩,f3,?_⟩
      · rw[List.length_drop,uF,Fs,hlen,←Nat.sub_mul,Nat.sub_sub]
      · simp only[av];exact⟨b,w9,rfl,cl⟩
theorem ie{ρ:Operand→AV}{ρ':Operand→Value}{o:Oper}{x y:Operand}{m n:Nat}{cs ds:List AV}{T xT e:TypeId}{z:List AV}(ho:o.op=.call {callee:=.builtin .append,args:=#[x,y],argTypes:=#[T,xT]})
    (hT:P.underlying T=some (.slice e)) (hx:kH P (some xT)=true) (hz:bq P e=some z) (hc:P.cellsOf e≠0) (sA:z.length=P.cellsOf e)
    (eD:gX (P.cellsOf e) s (ρ y)=some (m,ds)) (hm:m≠0) (h1:(n+m)*P.bytesOf e≤2^46) (h2:n+m≤2^46) (kO:ds.all AV.one=true) (hb:ni (P.cellsOf e) s (ρ x) n cs)
    (hρ:∀x,av G (ρ x) (ρ' x)) (hs:aP Γ G s w):
    dn P Γ G (fun r s'=>∃ob cap rest,r=.gR ob 0 (P.cellsOf e) (n+m) cap∧n+m≤cap∧cap<2^63∧rest.length=(cap-(n+m))*P.cellsOf e∧(s.aw ob=none∨∃rF,ρ x=.gR ob 0 (P.cellsOf e) n rF)∧s'=s.set ob (cs++ds++rest)) ((execOp ρ' o).run P w):=by
  obtain⟨G',r,w',ob,cap,rest,q1,q2,q3,q3',q4,q5,q6,q7⟩:=uE hT hx ⟨hz,hc,sA⟩ eD hm h1 h2 kO hb (hρ x) (hρ y) hs o.type;rw[cZ ho];simp only[builtin];exact dB ⟨G',r,w',_,_,by simpa using q1,q2,q6,q7,ob,cap,rest,rfl,q3,q3',q4,q5,rfl⟩
end Go.AM
namespace Go.AM
open Go Go.RowKit
variable{rd:Option Nat}{P:Program}{Γ:Nat→List AV}{G:Gh}{s:AS}{w:World}{N:Nat}
def cg(Γ:Nat→List AV)(s:AS)(x:AV)(s':AS)(x':AV):Prop:=∀G w u,aP Γ G s w→av G x u→∃G',G.le G'∧aP Γ G' s' w∧av G' x' u
theorem cg.refl(x:AV):cg Γ s x s x:=fun G _ _ hs hv=>⟨G,.refl G,hs,hv⟩
theorem cg.trans{s1 s2 s3:AS}{x y z:AV}(h:cg Γ s1 x s2 y)(k:cg Γ s2 y s3 z):cg Γ s1 x s3 z:=by
  intro G w u hs hv;obtain⟨G1,h1,h2,h3⟩:=h G w u hs hv;obtain⟨G2,k1,k2,k3⟩:=k G1 w u h2 h3;exact⟨G2,h1.trans k1,k2,k3⟩
theorem cg.aB{x y:AV}(h:x.aB y):cg Γ s x s y:=fun G _ _ hs hv=>⟨G,.refl G,hs,h _ _ hv⟩
theorem cg.le{s':AS}(x:AV)(h:s'.le s):cg Γ s x s' x:=fun G _ _ hs hv=>⟨G,.refl G,hs.mono h,hv⟩
theorem aP.QB{o:Nat}{cs cs':List AV}(h:aP Γ G s w)(ho:s.aw o=some cs)(hw:∀vs,au G cs vs→au G cs' vs):aP Γ G (s.set o cs') w:=by
  refine⟨h.ro,?_,h.cV,h.inj,h.own,h.cF,h.bS,h.cv,h.b7,h.below,h.others,h.base,h.gN,h.soft⟩;intro o' ds hd;by_cases e:o'=o
  · subst e;rw[AS.ae] at hd;cases hd;obtain⟨b,vs,h1,h2,h3,h4⟩:=h.aw o' cs ho;exact⟨b,vs,h1,hw vs h2,h3,h4⟩
  · rw[AS.ao _ e] at hd;exact h.aw o' ds hd
theorem cg.cells{O:Nat}{A B:List AV}{a b:AV}(x:AV)(hO:s.aw O=some (A++a::B))(hw:a.aB b):cg Γ s x (s.set O (A++b::B)) x:=by
  intro G w u hs hv;refine⟨G,.refl G,hs.QB hO (fun vs h=>?_),hv⟩;have hl:=h.length;have h1:=h.take A.length;have h2:=h.drop A.length;rw[List.take_left] at h1;rw[List.drop_left] at h2;generalize hd:vs.drop A.length=ds at h2;simp only[au] at h2;obtain⟨u1,us,rfl,h3,h4⟩:=h2;rw[←List.take_append_drop A.length vs,hd];exact h1.append (by simp only[au];exact⟨u1,us,rfl,hw _ _ h3,h4⟩)
theorem cg.inner{O o sz n cap:Nat}{A B cs rest:List AV}(x:AV)(hO:s.aw O=some (A++ .gR o 0 sz n cap::B))(ho:s.aw o=some (cs++rest))(dK:O≠o)(hl:cs.length=n*sz):
    cg Γ s x ((s.drop o).set O (A++ .sl sz n cs .any::B)) x:=by
  intro G w u hs hv;obtain⟨b,vs,h1,h2,h3,h4,h5⟩:=hs.freeze ho;refine⟨_,h3,h5.QB (cs:=A++ .gR o 0 sz n cap::B) (by rw[AS.qi,gS _ _ dK];exact hO) (fun us h=>?_),av.mono h3 _ _ hv⟩;have k1:=h.take A.length;have k2:=h.drop A.length;rw[List.take_left] at k1;rw[List.drop_left] at k2;generalize hd:us.drop A.length=ds at k2;simp only[au] at k2;obtain⟨u1,us1,rfl,k3,k4⟩:=k2;rw[←List.take_append_drop A.length us,hd];refine k1.append ?_;simp only[au];refine⟨u1,us1,rfl,?_,k4⟩;simp only[av] at k3⊢;obtain⟨b',q1,q2,q3⟩:=k3;rw[h3.obj _ _ h1] at q1;cases q1;have q5:=h2.take cs.length;rw[List.take_left] at q5;refine .inl ⟨b,0,cap,_,q2,hl,q3,au.mono h3 _ _ q5,?_,trivial⟩;intro j y hj;rw[List.getElem?_take] at hj;split at hj
  · exact h4 j y hj
  · cases hj
theorem cg.outer{o sz n cap:Nat}{cs rest:List AV}(ho:s.aw o=some (cs++rest))(hl:cs.length=n*sz):cg Γ s (.gR o 0 sz n cap) (s.drop o) (.sl sz n cs .any):=by
  intro G w u hs hv;obtain⟨b,vs,h1,h2,h3,h4,h5⟩:=hs.freeze ho;refine⟨_,h3,h5,?_⟩;simp only[av] at hv⊢;obtain⟨b',q1,q2,q3⟩:=hv;rw[h1] at q1;cases q1;have q5:=h2.take cs.length;rw[List.take_left] at q5;refine .inl ⟨b,0,cap,_,q2,hl,q3,au.mono h3 _ _ q5,?_,trivial⟩;intro j y hj;rw[List.getElem?_take] at hj;split at hj
  · exact h4 j y hj
  · cases hj
theorem aj.settle{f:FuncId}{args:List AV}{Q R:AV→AS→Prop}(h:aj P Γ f args s Q)(k:∀r s1,Q r s1→∃s2 r2,cg Γ s1 r s2 r2∧R r2 s2):aj P Γ f args s R:=by
  intro G w vs hs ha;refine(h G w vs hs ha).mono ?_;rintro e w' ⟨G',r,v,s',rfl,h1,h2,h3,h4⟩;obtain⟨s2,r2,k1,k2⟩:=k r s' h4;obtain⟨G2,q1,q2,q3⟩:=k1 G' w' v h2 h3;exact⟨G2,r2,v,s2,rfl,h1.trans q1,q2,q3,k2⟩
theorem vF{E:Env}{Q:Exit→Env→AS→Prop}{id:Nat}{L2:List Oper}{o1 o2 o:Oper}{code:Code}(hg:o.guard=none)(hd:∀d,o.dst=some d→d<N)
    (h:∀ops,AY P Γ N ops [o1,o2] (fun E1 s1=>∃K1:AV→AS→Prop,(∀G a w,Rel Γ N G E1 s1 a w→dn P Γ G K1 ((execOp a.eval o).run P w))∧
      ∀r s2,K1 r s2→AY P Γ N ops L2 (fun E' s'=>cp P Γ N code Q E' s') (bx E1 o.dst r) s2) E s):
    cp P Γ N (.seq (.region id (o1::o2::o::L2).toArray false) code) Q E s:=
  pG [o1,o2] L2 hg hd (h _)
theorem pK{E:Env}{Q:Exit→Env→AS→Prop}{id:Nat}(L1 L2:List Oper){o:Oper}(hg:o.guard=none)(hd:∀d,o.dst=some d→d<N)
    (h:AY P Γ N (L1++o::L2).toArray L1 (fun E1 s1=>∃K1:AV→AS→Prop,(∀G a w,Rel Γ N G E1 s1 a w→dn P Γ G K1 ((execOp a.eval o).run P w))∧
      ∀r s2,K1 r s2→AY P Γ N (L1++o::L2).toArray L2 (fun E' s'=>Q .normal E' s') (bx E1 o.dst r) s2) E s):
    cp P Γ N (.region id (L1++o::L2).toArray false) Q E s:=by
  rw[ay] at h;intro G a w hr;refine wpIn_region ?_;have bT:∀ops:Array Oper,(List.range ops.size).map (ops[·]?)=ops.toList.map some:=by
    intro ops;apply List.ext_getElem?;intro i;simp only[List.getElem?_map];by_cases hi:i<ops.size
    · simp[hi]
    · simp[hi]
  have pH:=bT (L1++o::L2).toArray;generalize hI:List.range (L1++o::L2).toArray.size=I at pH;have h1:(I.take L1.length).map ((L1++o::L2).toArray[·]?)=L1.map some:=by
    rw[List.map_take,pH];simp
  have h2:(I.drop L1.length).map ((L1++o::L2).toArray[·]?)=(o::L2).map some:=by
    rw[List.map_drop,pH];simp
  rw[←List.take_append_drop L1.length I];generalize I.take L1.length=I1 at h1;generalize I.drop L1.length=I2 at h2;cases I2 with
  |nil=>simp at h2
  |cons i I2=>
    simp only[List.map_cons,List.cons.injEq] at h2;refine dV L1 I1 (i::I2) h1 (dH _ h) hr ?_;rintro G1 E1 s1 a1 w1 gg qQ ⟨⟨K1,gP,hk⟩,B4⟩;rw[wpOpsIn_cons];simp only[wpOpIn,h2.1];rw[if_pos (dX hg)];refine(Oper.mZ qQ hd (gP G1 a1 w1 qQ) ?_);intro G3 r s3 a3 w3 Qw qR hK;refine lD L2 I2 h2.2 (dH _ (hk r s3 hK)) qR ?_;rintro G4 E4 s4 a4 w4 UJ Dd ⟨RV,Ko⟩;refine⟨G4,E4,s4,gg.trans (Qw.trans UJ),Dd,RV,?_⟩;intro i hi;have mem:∀L:List Oper,i∈cq L↔∃o∈L,o.dst=some i:=(fun L=>by simp[cq,List.mem_filterMap]);have aY:¬∃o'∈L1++o::L2,o'.dst=some i:=fun hm=>hi ((mem _).2 hm);have m1:i∉cq L1:=fun hm=>aY (by obtain⟨o,k1,k2⟩:=(mem _).1 hm;exact⟨o,by simp[k1],k2⟩);have m2:i∉cq L2:=fun hm=>aY (by obtain⟨o,k1,k2⟩:=(mem _).1 hm;exact⟨o,by simp[k1],k2⟩);have m3:o.dst≠some i:=fun e=>aY ⟨o,by simp,e⟩;rw[Ko i m2,cw m3,B4 i m1]
theorem x9{E:Env}{Q:Exit→Env→AS→Prop}{id:Nat}{L2:List Oper}{o1 o2 o3 o4 o:Oper}(hg:o.guard=none)(hd:∀d,o.dst=some d→d<N)
    (h:∀ops,AY P Γ N ops [o1,o2,o3,o4] (fun E1 s1=>∃K1:AV→AS→Prop,(∀G a w,Rel Γ N G E1 s1 a w→dn P Γ G K1 ((execOp a.eval o).run P w))∧
      ∀r s2,K1 r s2→AY P Γ N ops L2 (fun E' s'=>Q .normal E' s') (bx E1 o.dst r) s2) E s):
    cp P Γ N (.region id (o1::o2::o3::o4::o::L2).toArray false) Q E s:=
  pK [o1,o2,o3,o4] L2 hg hd (h _)
end Go.AM
namespace Go.AM
open Go Go.RowKit
variable{P:Program}{Γ:Nat→List AV}{N:Nat}{x y:List AV}
end Go.AM
namespace Go.AM
open Go Go.RowKit
variable{P:Program}{Γ:Nat→List AV}{G:Gh}{s:AS}{w:World}{N:Nat}{E:Env}
def zO(E:Env):List Tmp→List AV→Env
  |p::ps,x::xs=>zO (aH E p x) ps xs
  |_,_=>E
theorem Ba{G:Gh}:∀(ps:List Tmp)(xs:List AV)(us:List Value)(E:Env)(t:Array Value),au G xs us→t.size=N→(∀p∈ps,p<N)→(∀i,av G (E i) (t.getD i undef))→
    ((ps.zip us).foldl (fun t(pv:Tmp×Value)=>t.setIfInBounds pv.1 pv.2) t).size=N∧∀i,av G (zO E ps xs i) (((ps.zip us).foldl (fun t(pv:Tmp×Value)=>t.setIfInBounds pv.1 pv.2) t).getD i undef)
  |[],xs,us,E,t,hv,hs,hp,h=>by simp only[zO,List.zip_nil_left,List.foldl_nil];exact⟨hs,h⟩
  |p::ps,[],us,E,t,hv,hs,hp,h=>by simp only[au] at hv;subst hv;simp only[zO,List.zip_nil_right,List.foldl_nil];exact⟨hs,h⟩
  |p::ps,x::xs,us,E,t,hv,hs,hp,h=>by
    simp only[au] at hv;obtain⟨u,v8,rfl,h1,h2⟩:=hv;simp only[List.zip_cons_cons,List.foldl_cons,zO];refine Ba ps xs v8 (aH E p x) (t.setIfInBounds p u) h2 (by simpa using hs) (fun q hq=>hp q (by simp[hq])) fun i=>?_;simp only[aH];split
    · rename_i e;subst e;have :i<t.size:=(by rw[hs];exact hp i (by simp));simpa[Array.getD,this] using h1
    · rename_i e;have:=h i;simp only[Array.getD_eq_getD_getElem?] at this⊢;rw[Array.getElem?_setIfInBounds_ne (by omega)];exact this
def vG(P:Program)(Γ:Nat→List AV)(gf:FuncId)(cd:List AV)(xs:List (List AV)):Prop:=
  ∀(I:Nat→AS→Prop)(l:Nat)(s:AS)(G:Gh)(W:World)(lb:List Value),G.df=[]→au G cd lb→I 0 s→aP Γ G s W→
    (∀i x s1 G1 us W1,xs[i]? =some x→I i s1→G.le G1→aP Γ G1 s1 W1→au G1 x us→YieldAt Fence.wide 0 P l us.toArray W1 fun e W'=>e=.returned (.bool true)∧∃G2 s2,G1.le G2∧aP Γ G2 s2 W'∧I (i+1) s2)→
    CallsIn Fence.wide 0 P gf (#[.func (.yield l) #[] #[]]++lb.toArray) W fun e W'=>(∃v,e=.returned v)∧∃G2 s2,G.le G2∧aP Γ G2 s2 W'∧I xs.length s2
theorem Cc{a:Act}{g:Operand}{ps:List Tmp}{assign body:Code}{gf:FuncId}{cd:List AV}{xs:List (List AV)}(hr:Rel Γ N G E s a w)(uA:G.df=[])(hg:aO Γ E g=.qx gf cd)(JQ:ag P gf=true)(JR:vG P Γ gf cd xs)
    (hp:∀p∈ps,p<N) (Nq:∀x∈xs,x.length=ps.length) (I:Nat→AS→Prop) (h0:I 0 s)
    (Sa:∀(i:Nat)(x:List AV)(s1:AS),xs[i]? =some x→I i s1→cp P Γ N assign (fun e E2 s2=>e=.normal∧cp P Γ N body (fun e E3 s3=>e=.normal∧I (i+1) s3) E2 s2) (zO E ps x) s1):
    (Code.rangeFunc g ps.toArray assign body).wpIn Fence.wide 0 P (fun e a' w'=>e=.normal∧∃D G' s',G.le G'∧w.heap.size≤D∧w'.heap[D]? =some (.deferred (some []))∧
      a'= {a with defers:={target:=.collected D,args:=#[]}::a.defers}∧aP Γ G' s' w'∧I xs.length s') a w:=by
  have RW:=hr.eval g;rw[hg] at RW;simp only[av] at RW;obtain⟨lb,hg',RX⟩:=RW;have J8:G.w0.heap.size≤w.heap.size:=hr.st.below.size;have hBw:G.B≤w.heap.size:=hr.st.base;refine wpIn_rangeFunc ?_;intro fn UL;obtain⟨rec,pI⟩:∃rec:LoopState→Option Code→Loop,rec=fun st pe=>{state:=st,pending:=pe,fn,tmps:=a.tmps,params:=ps.toArray,assign,body,defers:=w.heap.size}:=⟨_,rfl⟩;obtain⟨W1,N8⟩:∃W1,(w.alloc (.deferred (some []))).alloc (.loop (rec .ready none))=W1:=⟨_,rfl⟩;have RY:W1.heap[w.heap.size+1]? =some (.loop (rec .ready none)):=by
    rw[←N8];have:=World.alloc_heap_new (w.alloc (.deferred (some []))) (.loop (rec .ready none));rwa [World.size_alloc] at this
  have kh:W1.heap[w.heap.size]? =some (.deferred (some [])):=by
    rw[←N8];exact(Below.heap_alloc _ _ _ (by simp)).trans (World.alloc_heap_new w _)
  have gC:aP Γ G s W1:=by
    rw[←N8];exact(hr.st.alloc _ (by intro c T lo hi e;cases e)).alloc _ (by intro c T lo hi e;cases e)
  refine⟨w.heap.size+1,[{target:=.collected w.heap.size,args:=#[]}],W1,{target:=.fn (.func gf) lb.toArray,args:=#[.func (.yield (w.heap.size+1)) #[] #[]]},W1,gf,
    #[.func (.yield (w.heap.size+1)) #[] #[]]++lb.toArray,W1,?_,?_,?_,?_,(fun e=>by cases e),?_⟩
  · rw[←N8,pI];exact run_enterLoop_outer _ _ _ _ _
  · simp only[resolve,hg'];simp[go_sem]
  · intro f' _;trivial
  · have:=nM (w:=W1) JQ (#[.func (.yield (w.heap.size+1)) #[] #[]]++lb.toArray);simpa[invoke,go_sem] using this
  · have hsW:aP Γ (G.setW W1) s W1:=gC.setW;refine(JR I (w.heap.size+1) s (G.setW W1) W1 lb uA (au.sub (G.gq W1) _ _ RX) h0 hsW ?_).mono ?_
    · rintro i x s1 G1 us W hx hI hle h2 hu;have HC:G1.w0=W1:=hle.w0;have RZ:G1.B=G.B:=hle.B;have IQ:dm W1 W:=(by have:=h2.others;rwa [HC] at this);have hl:=IQ _ _ RY (by intros;simp);have hk:=IQ _ _ kh (by intros;simp);have hbW:Below G.B W1 W:=(by have:=h2.below;rwa [HC,RZ] at this);obtain⟨q1,q2⟩:=gC.sv hle h2;have bJ:w.heap.size+1<W.heap.size:=(Array.getElem?_eq_some_iff.1 hl).1;have hy:=run_yield (P:=P) (args:=us.toArray) hl (by rw[pI];simp[←hu.length,Nq x (List.mem_of_getElem? hx)]);rw[pI] at hy;refine⟨fn,_,assign,body,hy,roundIn_of_wpIn UL ?_⟩;have e3:((ps.toArray).zip us.toArray).foldl (fun t(p,v)=>t.setIfInBounds p v) a.tmps=(ps.zip us).foldl (fun t(pv:Tmp×Value)=>t.setIfInBounds pv.1 pv.2) a.tmps:=(by simp);have Ks:Rel Γ N ((G1.setW G.w0).setW W) (zO E ps x) s1 {tmps:=((ps.toArray).zip us.toArray).foldl (fun t(p,v)=>t.setIfInBounds p v) a.tmps,defers:=[]} W:=by
        rw[e3];have htm:=Ba (G:=(G1.setW G.w0).setW W) ps x us E a.tmps (au.sub (G:=G1.setW G.w0) (Gh.gq _ _) _ _ (au.sub (G1.gq G.w0) _ _ hu)) hr.size hp fun k=>av.sub (G:=G1.setW G.w0) (Gh.gq _ _) _ _ (av.mono q2 _ _ (hr.tmps k));exact⟨q1.setW,htm.1,htm.2,by rw[show((G1.setW G.w0).setW W).df=G1.df from rfl,hle.df];exact uA.symm⟩
      refine wpIn_mono (Sa i x s1 hx hI _ _ W Ks (rd:=some (w.heap.size+1))) ?_;rintro e a1 Wa ⟨Ga,E2,s2,zL,IU,⟨rfl,Of⟩,-⟩;have R3:dm W Wa:=by
        have:=IU.st.others;rwa [show Ga.w0=W from zL.w0] at this
      have hba:Below G.B W Wa:=by
        have:=IU.st.below;rwa [show Ga.w0=W from zL.w0,show Ga.B=G.B from zL.B.trans RZ] at this
      have R4:=R3 _ _ hl (by intros;simp);have xbn:=R3 _ _ hk (by intros;simp);obtain⟨gb1,gb2⟩:=q1.sv zL IU.st;refine⟨_,run_beginRound R4 (by rw[pI]),?_⟩;have Kt:w.heap.size+1<Wa.heap.size:=(Array.getElem?_eq_some_iff.1 R4).1;obtain⟨W2,Ku⟩:∃W2,Wa.putObj (w.heap.size+1) (.loop {rec .ready none with state:=.busy})=W2:=⟨_,rfl⟩;have BM:W2.heap[w.heap.size+1]? =some (.loop {rec .ready none with state:=.busy}):=(by rw[←Ku];exact World.putObj_heap_same Kt);have T4:Ga.B=G.B:=zL.B.trans RZ;have ng:aP Γ (Ga.setW G.w0) s2 W2:=by
        rw[←Ku];exact gb1.putObj R4 (by intros;simp) (by intros;simp) (by show G.w0.heap.size≤_;omega) (by show Ga.B≤_;omega)
      rw[Ku];have xA:Rel Γ N ((Ga.setW G.w0).setW W2) E2 s2 a1 W2:=
        ⟨ng.setW,IU.size,fun k=>av.sub (G:=Ga) (G':=(Ga.setW G.w0).setW W2) ⟨rfl,rfl,rfl,rfl⟩ _ _ (IU.tmps k),IU.defers⟩
      refine wpIn_mono (Of _ _ W2 xA (rd:=some (w.heap.size+1))) ?_;rintro e a3 W3 ⟨G2,E3,s3,g1,⟨g2,-,-,-⟩,⟨rfl,hI3⟩,-⟩;have Qy:G2.w0=W2:=g1.w0;have UM:G2.B=G.B:=g1.B.trans T4;have NT:dm W2 W3:=by
        have:=g2.others;rwa [Qy] at this
      have Nt:Below G.B W2 W3:=by
        have:=g2.below;rwa [Qy,UM] at this
      have IA:=NT _ _ BM (by intros;simp);obtain⟨g3,g4⟩:=ng.sv g1 g2;have qR:(Instr.endRound (w.heap.size+1) none).run P W3=.ok (.bool true) (W3.putObj (w.heap.size+1) (.loop (rec .ready none))):=by
        have:=run_endRound (P:=P) none IA;rw[pI] at this⊢;exact this
      have B6:w.heap.size+1<W3.heap.size:=(Array.getElem?_eq_some_iff.1 IA).1;have Nu:=g3.putObj (o':=.loop (rec .ready none)) IA (by intros;simp) (by intros;simp) (by show G.w0.heap.size≤_;omega) (by show G2.B≤_;omega);have UN:∀(V:World)(o:Obj),w.heap.size+1<V.heap.size→Below G.B V (V.putObj (w.heap.size+1) o):=fun V o hV=>
        (Below.refl _ _).grown (row:=some (w.heap.size+1)) ⟨rfl,rfl,rfl,by simp[World.putObj],fun i _ hi=>World.putObj_heap_other (fun e=>hi (by rw[e]))⟩ (by omega) (fun i e=>by cases e;omega)
      refine⟨_,_,qR,rfl,G2.setW W1,s3,?_,?_,hI3⟩
      · exact⟨fun b j v hv=>g1.ro b j v (zL.ro b j v hv),fun o b hb=>g1.obj o b (zL.obj o b hb),fun t e r ht=>g1.tok t e r (zL.tok t e r ht),g1.B.trans zL.B,HC.symm,g1.df.trans zL.df⟩
      · refine Nu.sub (G:=G2.setW G.w0) (G':=G2.setW W1) ⟨rfl,rfl,rfl,rfl⟩ rfl rfl ?_ ?_
        · show Below G2.B W1 _;rw[UM];refine(hbW.trans hba).trans (Below.trans ?_ (Nt.trans (UN _ _ B6)));rw[←Ku];exact UN _ _ Kt
        · intro k o Kv qC;replace Kv:W1.heap[k]? =some o:=Kv;by_cases e:k=w.heap.size+1
          · subst e;rw[RY] at Kv;cases Kv;exact World.putObj_heap_same B6
          · rw[World.putObj_heap_other e];refine NT k o ?_ qC;rw[←Ku,World.putObj_heap_other e];exact R3 k o (IQ k o Kv qC) qC
    · rintro e W2 ⟨⟨v,rfl⟩,G2,s2,h1,h2,US⟩;have HC:G2.w0=W1:=h1.w0;have IQ:dm W1 W2:=(by have:=h2.others;rwa [HC] at this);have hl:=IQ _ _ RY (by intros;simp);have hk:=IQ _ _ kh (by intros;simp);obtain⟨q1,q2⟩:=gC.sv h1 h2;refine⟨none,_,by have:=run_endLoop (P:=P) hl (by rw[pI];simp);rw[pI] at this;exact this,rfl,w.heap.size,G2.setW G.w0,s2,q2,Nat.le_refl _,(World.putObj_heap_other (by omega)).trans hk,rfl,?_,US⟩;rw[pI] at hl;exact q1.putObj hl (by intros;simp) (by intros;simp) (by show G.w0.heap.size≤_;omega) (by rw[show(G2.setW G.w0).B=G2.B from rfl,h1.B];show G.B≤_;omega)
def F6(P:Program)(Γ:Nat→List AV)(N:Nat)(rs:List ResultVar)(b6:AV→AS→Prop)(c:Code)(E:Env)(s:AS):Prop:=
  ∀(G:Gh)(a:Act)(w:World),G.df=[]→Rel Γ N G E s a w→c.wpIn Fence.wide 0 P (fun e a' w'=>(e=.normal∨e=.ret)∧∃D G' E' s',G.le G'∧(G.w0.heap.size≤D∧G.B≤D)∧w'.heap[D]? =some (.deferred (some []))∧
      a'.defers=[{target:=.collected D,args:=#[]}]∧Rel Γ N (G'.cI a'.defers) E' s' a' w'∧bt P rs b6 E' s') a w
theorem ya{f:FuncId}{fn:Func}{c:Code}{args:List AV}{b6:AV→AS→Prop}{s:AS}(hf:P.funcs[f]? =some fn)(hb:fn.body=some c){n:Nat}(hN:fn.ntmps=n){rs:Array ResultVar}(FY:fn.results=rs)(hn:args.length≤n)
    (h:F6 P Γ n rs.toList b6 c (bC args) s):aj P Γ f args s b6:=by
  subst hN;subst FY;exact oD hf hb hn h
variable{rs:List ResultVar}{b6:AV→AS→Prop}
theorem Og{x y:Code}(h:cp P Γ N x (fun e E' s'=>e=.normal∧F6 P Γ N rs b6 y E' s') E s):F6 P Γ N rs b6 (.seq x y) E s:=by
  intro G a w uA hr;refine wpIn_seq (wpIn_mono (F:=uo none) (n:=0) (h G a w hr) ?_);rintro e a1 w1 ⟨G1,E1,s1,g1,g2,⟨rfl,k⟩,-⟩;refine wpIn_mono (k G1 a1 w1 (g1.df.trans uA) g2) ?_;rintro e a' w' ⟨he,D,G',E',s',h1,h2,h3⟩;exact⟨he,D,G',E',s',g1.trans h1,by rw[←g1.w0,←g1.B];exact h2,h3⟩
theorem qm{id:Nat}{L:List Oper}{y:Code}(h:∀K:Env→AS→Prop,(∀E s,F6 P Γ N rs b6 y E s→K E s)→AY P Γ N L.toArray L K E s):F6 P Γ N rs b6 (.seq (.region id L.toArray false) y) E s:=by
  refine Og (nO ?_);have:=h (fun E s=>Exit.normal=.normal∧F6 P Γ N rs b6 y E s) fun E s k=>⟨rfl,k⟩;rw[ay] at this;simpa using this
def F7(P:Program)(Γ:Nat→List AV)(N:Nat)(rs:List ResultVar)(b6:AV→AS→Prop)(g:Operand)(ps:List Tmp)(assign body rest:Code)(E:Env)(s:AS):Prop:=
  ∃(gf:FuncId)(cd:List AV)(xs:List (List AV))(I:Nat→AS→Prop),aO Γ E g=.qx gf cd∧ag P gf=true∧vG P Γ gf cd xs∧(∀x∈xs,x.length=ps.length)∧I 0 s∧
    (∀(i:Nat)(x:List AV)(s1:AS),xs[i]? =some x→I i s1→cp P Γ N assign (fun e E2 s2=>e=.normal∧cp P Γ N body (fun e E3 s3=>e=.normal∧I (i+1) s3) E2 s2) (zO E ps x) s1)∧
    ∀s2,I xs.length s2→cp P Γ N rest (cf P rs b6) E s2
theorem IX{b:Nat}{x:Code}{g:Operand}{ps:List Tmp}{assign body rest:Code}(hp:∀p∈ps,p<N)
    (h:cp P Γ N x (fun e E' s'=>e=.normal∧F7 P Γ N rs b6 g ps assign body rest E' s') E s):F6 P Γ N rs b6 (.seq (.seq x (.block b (.rangeFunc g ps.toArray assign body))) rest) E s:=by
  intro G a w uA hr;refine wpIn_seq (wpIn_seq (wpIn_mono (F:=uo none) (n:=0) (h G a w hr) ?_));rintro e a1 w1 ⟨G1,E1,s1,g1,g2,⟨rfl,gf,cd,xs,I,q1,q2,q3,q4,q5,q6,q7⟩,-⟩;have UY:G1.df=[]:=g1.df.trans uA;refine wpIn_block (wpIn_mono (Cc g2 UY q1 q2 q3 hp q4 I q5 q6) ?_);rintro e a2 w2 ⟨rfl,D,G2,s2,h1,hD,hk,rfl,hs,hI⟩;have eR:=g2.st.below.size;have Dx:=g2.st.base;refine cp.behind g2 h1 hk hs UY (q7 s2 hI) ?_;intro e G3 E3 s3 a3 w3 j1 j2 j3 j4 j5;have hf:bt P rs b6 E3 s3∧(e=.normal∨e=.ret):=by
    cases e<;>simp only[cf] at j5
    · exact⟨j5,.inl rfl⟩
    · exact⟨j5,.inr rfl⟩
  exact⟨hf.2,D,G3,E3,s3,g1.trans j1,⟨by rw[←g1.w0];omega,by rw[←g1.B];omega⟩,j2,j3,j4,hf.1⟩
theorem qT{id b:Nat}{L:List Oper}{g:Operand}{ps:List Tmp}{assign body rest:Code}(hp:∀p∈ps,p<N)
    (h:∀K:Env→AS→Prop,(∀E s,F7 P Γ N rs b6 g ps assign body rest E s→K E s)→AY P Γ N L.toArray L K E s):F6 P Γ N rs b6 (.seq (.seq (.region id L.toArray false) (.block b (.rangeFunc g ps.toArray assign body))) rest) E s:=by
  refine IX hp (nO ?_);have:=h (fun E s=>Exit.normal=.normal∧F7 P Γ N rs b6 g ps assign body rest E s) fun E s k=>⟨rfl,k⟩;rw[ay] at this;simpa using this
end Go.AM
namespace Go.AM
open Go Go.RowKit
variable{P:Program}{Γ:Nat→List AV}{G:Gh}{s:AS}{w:World}{N:Nat}{E:Env}
theorem wq{Q:Exit→Env→AS→Prop}{id:Nat}{L2:List Oper}{o1 o2 o3 o:Oper}(hg:o.guard=none)(hd:∀d,o.dst=some d→d<N)
    (h:∀ops,AY P Γ N ops [o1,o2,o3] (fun E1 s1=>∃K1:AV→AS→Prop,(∀G a w,Rel Γ N G E1 s1 a w→dn P Γ G K1 ((execOp a.eval o).run P w))∧
      ∀r s2,K1 r s2→AY P Γ N ops L2 (fun E' s'=>Q .normal E' s') (bx E1 o.dst r) s2) E s):
    cp P Γ N (.region id (o1::o2::o3::o::L2).toArray false) Q E s:=
  pK [o1,o2,o3] L2 hg hd (h _)
def YA(P:Program)(Γ:Nat→List AV)(G0:Gh)(l:Nat)(x:List AV)(s1:AS)(b6:AS→Prop):Prop:=
  ∀(G1:Gh)(us:List Value)(W1:World),G0.le G1→aP Γ G1 s1 W1→au G1 x us→YieldAt Fence.wide 0 P l us.toArray W1 fun e W'=>e=.returned (.bool true)∧∃G2 s2,G1.le G2∧aP Γ G2 s2 W'∧b6 s2
def HD(P:Program)(Γ:Nat→List AV)(N:Nat)(G0:Gh)(c:Code)(Q:Exit→Env→AS→Prop)(E:Env)(s:AS):Prop:=
  ∀(G:Gh)(a:Act)(w:World),G0.le G→Rel Γ N G E s a w→
    c.wpIn Fence.wide 0 P (fun e a' w'=>∃G' E' s',G.le G'∧Rel Γ N G' E' s' a' w'∧Q e E' s'∧∀i,i∉writes c→E' i=E i) a w
variable{G0:Gh}{Q:Exit→Env→AS→Prop}
theorem cp.y{c:Code}(h:cp P Γ N c Q E s):HD P Γ N G0 c Q E s:=fun G a w _ hr=>h G a w hr (rd:=none)
theorem eG{x y:Code}(h:HD P Γ N G0 x (az (HD P Γ N G0 y Q) Q) E s):HD P Γ N G0 (.seq x y) Q E s:=by
  intro G a w hG hr;refine wpIn_seq (wpIn_mono (h G a w hG hr) ?_);rintro e a' w' ⟨G',E',s',h1,h2,h3,h4⟩;have hw:∀i,i∉writes (.seq x y)→E' i=E i:=fun i hi=>h4 i (fun hm=>hi (by simp[writes,hm]));cases e<;>simp only[Exit.then,az] at h3⊢;case normal=>
    refine wpIn_mono (h3 G' a' w' (hG.trans h1) h2) ?_;rintro e zB wj ⟨vp,kq,iI,k1,k2,k3,k4⟩;exact⟨vp,kq,iI,h1.trans k1,k2,k3,fun i hi=>by rw[k4 i (fun hm=>hi (by simp[writes,hm])),hw i hi]⟩
  all_goals exact⟨G',E',s',h1,h2,h3,hw⟩
theorem qn{id:Nat}{c:Code}(h:HD P Γ N G0 c (ar id Q) E s):HD P Γ N G0 (.block id c) Q E s:=by
  intro G a w hG hr;refine wpIn_block (wpIn_mono (h G a w hG hr) ?_);rintro e a' w' ⟨G',E',s',h1,h2,h3,h4⟩;cases e<;>simp only[Exit.inBlock,ar] at h3⊢;case exit id'=>
    split at h3
    · rename_i RM;rw[if_pos RM];exact⟨G',E',s',h1,h2,h3,h4⟩
    · rename_i RM;rw[if_neg RM];exact⟨G',E',s',h1,h2,h3,h4⟩
  all_goals exact⟨G',E',s',h1,h2,h3,h4⟩
theorem D8{c:Code}(I:Env→AS→Prop)(μ:Env→AS→Nat)(h0:I E s)
    (round:∀E' s',I E' s'→(∀i,i∉writes c→E' i=E i)→HD P Γ N G0 c (az (fun kq iI=>I kq iI∧μ kq iI<μ E' s') Q) E' s'):HD P Γ N G0 (.loop c) Q E s:=by
  intro G a w hG hr;let Φ:Act→World→Gh→Env→AS→Prop:=fun a w G' E' s'=>G.le G'∧Rel Γ N G' E' s' a w∧I E' s'∧∀i,i∉writes c→E' i=E i;let C:Act→World→Nat→Prop:=fun a w n=>∃G' E' s',Φ a w G' E' s'∧μ E' s'=n;open Classical in
  let ν:Act→World→Nat:=fun a w=>if h:∃n,C a w n then Classical.choose (exists_least _ h) else 0
  refine wpIn_loop (fun a w=>∃n,C a w n) ν ⟨_,G,E,s,⟨.refl G,hr,h0,fun _ _=>rfl⟩,rfl⟩ ?_;intro a1 w1 hI;have hν:ν a1 w1=Classical.choose (exists_least _ hI):=(by simp only[ν];rw[dif_pos hI]);obtain⟨G1,E1,s1,⟨g1,g2,g3,g4⟩,g5⟩:=(Classical.choose_spec (exists_least _ hI)).1;refine wpIn_mono (round E1 s1 g3 g4 G1 a1 w1 (hG.trans g1) g2) ?_;rintro e a' w' ⟨G',E',s',h1,h2,h3,h4⟩;have hw:∀i,i∉writes c→E' i=E i:=(fun i hi=>by rw[h4 i hi,g4 i hi]);cases e<;>simp only[Exit.then,az] at h3⊢;case normal=>
    have hC:∃n,C a' w' n:=⟨_,G',E',s',⟨g1.trans h1,h2,h3.1,hw⟩,rfl⟩;refine⟨hC,?_⟩;have :ν a' w'=Classical.choose (exists_least _ hC):=(by simp only[ν];rw[dif_pos hC]);rw[this,hν,←g5];exact Nat.lt_of_le_of_lt ((Classical.choose_spec (exists_least _ hC)).2 _ ⟨G',E',s',⟨g1.trans h1,h2,h3.1,hw⟩,rfl⟩) h3.2
  all_goals exact⟨G',E',s',g1.trans h1,h2,h3,hw⟩
theorem zQ{ρ:Operand→Value}{o:Oper}{f:Operand}{xs:List Operand}{ts:Array TypeId}{l:Nat}(ho:o.op=.call {callee:=.value f,args:=xs.toArray,argTypes:=ts})(hf:ρ f=.func (.yield l) #[] #[]):
    (execOp ρ o).run P w=(Instr.yield l (xs.map ρ).toArray).run P w:=by
  obtain⟨dst,op,type,pos,after,guard⟩:=o;simp only at ho;subst ho;simp[execOp,resolve,hf,Deferred.ofValue,invoke]
theorem yb{G:Gh}{E:Env}{a:Act}{w:World}(hr:Rel Γ N G E s a w):∀xs:List Operand,au G (xs.map (aO Γ E)) (xs.map a.eval)
  |[]=>by simp[au]
  |x::xs=>by simp only[List.map_cons,au];exact⟨_,_,rfl,hr.eval x,yb hr xs⟩
theorem Bb{l id:Nat}(L1 L2:List Oper){o:Oper}{f:Operand}{xs:List Operand}{ts:Array TypeId}
    (ho:o.op=.call {callee:=.value f,args:=xs.toArray,argTypes:=ts}) (hg:o.guard=none) (hd:∀d,o.dst=some d→d<N)
    (h1:AY P Γ N (L1++o::L2).toArray L1 (fun E1 s1=>aO Γ E1 f=.v (.func (.yield l) #[] #[])∧∃b6,YA P Γ G0 l (xs.map (aO Γ E1)) s1 b6∧
      ∀s2,b6 s2→AY P Γ N (L1++o::L2).toArray L2 (fun E' s'=>Q .normal E' s') (bx E1 o.dst (.v (.bool true))) s2) E s):HD P Γ N G0 (.region id (L1++o::L2).toArray false) Q E s:=by
  intro G a w hG hr;rw[ay] at h1;refine wpIn_region ?_;have pH:=A6 (L1++o::L2).toArray;generalize List.range (L1++o::L2).toArray.size=I at pH⊢;obtain⟨I1,i,I2,rfl,m1,mo,m2⟩:=A7 (A:=L1) (B:=L2) (o:=o) pH;refine ib (l:=none) L1 I1 (i::I2) m1 (dH _ h1) hr ?_;rintro G1 E1 s1 a1 w1 gg qQ ⟨⟨hf,b6,hy,hk⟩,B4⟩;have IV:=qQ.eval f;rw[hf] at IV;simp only[av] at IV;obtain⟨fn,tmps,assign,body,q1,q2⟩:=hy G1 (xs.map a1.eval) w1 (hG.trans gg) qQ.st (yb qQ xs);simp only[wpOpsIn,mo];rw[if_pos (dX hg)];refine⟨fun _ _=>trivial,?_⟩;rw[Oper.semAt_eq _ _ _ (by intro c;rw[ho];simp),zQ ho IV,q1];rw[Oper.uponIn_round];refine⟨fun e=>(by cases e),RoundIn.mono (F:=Fence.wide) q2 ?_⟩;rintro e W' ⟨rfl,G2,s2,g1,g2,g3⟩;have g4:=hk s2 g3;have qS:Rel Γ N G2 E1 s2 a1 W':=⟨g2,qQ.size,fun i=>av.mono g1 _ _ (qQ.tmps i),qQ.defers.trans g1.df.symm⟩;have qR:=qS.put (dst:=o.dst) (Gh.le.refl G2) g2 (r:=.v (.bool true)) (v:=.bool true) (by simp[av]) hd;refine nT (l:=none) L2 I2 m2 (dH _ g4) qR ?_;rintro G3 E3 s3 a3 w3 h3 qR ⟨UU,R6⟩;refine⟨G3,E3,s3,gg.trans (g1.trans h3),qR,UU,fun j hj=>?_⟩;have mem:∀L:List Oper,j∈cq L↔∃o∈L,o.dst=some j:=(fun L=>by simp[cq,List.mem_filterMap]);have kJ:¬∃o'∈L1++o::L2,o'.dst=some j:=fun hm=>hj ((mem _).2 hm);have m1:j∉cq L1:=fun hm=>kJ (by obtain⟨o,k1,k2⟩:=(mem _).1 hm;exact⟨o,by simp[k1],k2⟩);have m2:j∉cq L2:=fun hm=>kJ (by obtain⟨o,k1,k2⟩:=(mem _).1 hm;exact⟨o,by simp[k1],k2⟩);have m3:o.dst≠some j:=fun e=>kJ ⟨o,by simp,e⟩;rw[R6 j m2,cw m3,B4 j m1]
theorem F8{l id:Nat}{o1 o2 o p1:Oper}{f:Operand}{xs:List Operand}{ts:Array TypeId}{code:Code}
    (ho:o.op=.call {callee:=.value f,args:=xs.toArray,argTypes:=ts}) (hg:o.guard=none) (hd:∀d,o.dst=some d→d<N)
    (h1:∀(K:Env→AS→Prop),(∀E s,HD P Γ N G0 code Q E s→K E s)→∀ops,AY P Γ N ops [o1,o2] (fun E1 s1=>aO Γ E1 f=.v (.func (.yield l) #[] #[])∧∃b6,YA P Γ G0 l (xs.map (aO Γ E1)) s1 b6∧
      ∀s2,b6 s2→AY P Γ N ops [p1] K (bx E1 o.dst (.v (.bool true))) s2) E s):HD P Γ N G0 (.seq (.region id #[o1,o2,o,p1] false) code) Q E s:=
  eG (Bb [o1,o2] [p1] ho hg hd (h1 _ (fun _ _ h=>h) _))
theorem F9{l id:Nat}{o1 o2 o3 o4 o5 o6 o p1:Oper}{f:Operand}{xs:List Operand}{ts:Array TypeId}{code:Code}
    (ho:o.op=.call {callee:=.value f,args:=xs.toArray,argTypes:=ts}) (hg:o.guard=none) (hd:∀d,o.dst=some d→d<N)
    (h1:∀(K:Env→AS→Prop),(∀E s,HD P Γ N G0 code Q E s→K E s)→∀ops,AY P Γ N ops [o1,o2,o3,o4,o5,o6] (fun E1 s1=>aO Γ E1 f=.v (.func (.yield l) #[] #[])∧∃b6,YA P Γ G0 l (xs.map (aO Γ E1)) s1 b6∧
      ∀s2,b6 s2→AY P Γ N ops [p1] K (bx E1 o.dst (.v (.bool true))) s2) E s):HD P Γ N G0 (.seq (.region id #[o1,o2,o3,o4,o5,o6,o,p1] false) code) Q E s:=
  eG (Bb [o1,o2,o3,o4,o5,o6] [p1] ho hg hd (h1 _ (fun _ _ h=>h) _))
theorem D9{gf:FuncId}{fn:Func}{c:Code}{cd:List AV}{xs:List (List AV)}(hf:P.funcs[gf]? =some fn)(hb:fn.body=some c){n:Nat}(hN:fn.ntmps=n)(FY:fn.results= #[])(hn:cd.length+1≤n)
    (h:∀(I:Nat→AS→Prop)(l:Nat)(s:AS)(G:Gh),I 0 s→(∀i x s1,xs[i]? =some x→I i s1→YA P Γ G l x s1 (I (i+1)))→
      HD P Γ n G c (fun e _ s'=>(e=.normal∨e=.ret)∧I xs.length s') (bC (.v (.func (.yield l) #[] #[])::cd)) s):vG P Γ gf cd xs:=by
  subst hN;intro I l s G W lb uA RX h0 hs hy;refine callsIn_of_wp hf hb trivial ?_;have Sb:=Rel.entry (N:=fn.ntmps) (args:=.v (.func (.yield l) #[] #[])::cd) (vs:=.func (.yield l) #[] #[]::lb) hs (by simp only[au];exact⟨_,_,rfl,by simp[av],RX⟩) (by simpa using hn) uA;rw[show(#[.func (.yield l) #[] #[]]++lb.toArray:Array Value)=(.func (.yield l) #[] #[]::lb).toArray from by simp];refine wpIn_mono (h I l s G h0 (fun i x s1 hx hI G1 us W1 hle h2 hu=>hy i x s1 G1 us W1 hx hI hle h2 hu) G _ W (.refl G) Sb) ?_;rintro e a' w' ⟨G',E',s',h1,h2,⟨h3,h4⟩,-⟩;have fin:bodyPost P fn (fun e W'=>(∃v,e=.returned v)∧∃G2 s2,G.le G2∧aP Γ G2 s2 W'∧I xs.length s2) .normal a' w':=by
    refine⟨h2.defers.trans (h1.df.trans uA),.tuple #[],?_,⟨_,rfl⟩,G',s',h1,h2.st,h4⟩;rw[lG,FY];simp
  rcases h3 with rfl|rfl
  · exact fin
  · exact fin
end Go.AM
namespace Go.AM
open Go Go.RowKit
variable{P:Program}{Γ:Nat→List AV}{N:Nat}{rs:List ResultVar}{b6:AV→AS→Prop}
theorem F6.ghost{c:Code}{E E':Env}{s s':AS}(hg:gZ Γ N E s E' s')(h:F6 P Γ N rs b6 c E' s'):F6 P Γ N rs b6 c E s:=by
  intro G a w uA hr;obtain⟨G1,h1,h2⟩:=hg G a w hr;refine wpIn_mono (h G1 a w (h1.df.trans uA) h2) ?_;rintro e a' w' ⟨he,D,G',E2,s2,k1,k2,k3⟩;exact⟨he,D,G',E2,s2,h1.trans k1,by rw[←h1.w0,←h1.B];exact k2,k3⟩
theorem Cd{c:Code}{E:Env}{s:AS}{d o:Nat}{cs:List AV}(hd:E d=.ptr o 0)(ho:s.aw o=none)(h:F6 P Γ N rs b6 c (aH E d (.dr cs)) s):F6 P Γ N rs b6 c E (s.set o cs):=by
  have:=gZ.m9 (Γ:=Γ) (N:=N) (E:=E) (s:=s.set o cs) (d:=d) hd (AS.ae _ _ _);rw[AS.drop_set ho] at this;exact h.ghost this
theorem IY{c:Code}{E:Env}{s s':AS}(h:AS.tells Γ s s')(k:F6 P Γ N rs b6 c E s'):F6 P Γ N rs b6 c E s:=
  fun G a w uA hr=>k G a w uA ⟨h G w hr.st,hr.size,hr.tmps,hr.defers⟩
end Go.AM
namespace Go.AM
open Go Go.RowKit
variable{rd:Option Nat}{P:Program}{Γ:Nat→List AV}{G:Gh}{s:AS}{w:World}{N:Nat}{ops:Array Oper}
inductive SM where
  |val
  |Ky (v:AV)
  |all (v:AV)
  |wY
def SM.dD:SM→Bool
  |.wY=>true
  |_=>false
def SM.isVal:SM→Bool
  |.val=>true
  |.all _=>true
  |_=>false
def Gb(P:Program)(Γ:Nat→List AV)(ops:Array Oper)(o:Oper)(E:Env)(s:AS)(v:AV):Prop:=rE ops o E∧b8 P Γ (aO Γ E) s (fun r s'=>r=v∧s'=s) o.op
def SV(P:Program)(Γ:Nat→List AV)(ops:Array Oper)(m:SM)(o:Oper)(E:Env)(s:AS)(v:AV):Prop:=
  match m with
  |.val=>bN P Γ ops o E=some v
  |.Ky u=>v=u∧Gb P Γ ops o E s u
  |.all u=>v=u∧∀s,Gb P Γ ops o E s u
  |.wY=>False
def jg(P:Program)(Γ:Nat→List AV)(N:Nat)(ops:Array Oper):List (Oper×SM)→(Env→AS→Prop)→Env→AS→Prop
  |[],K,E,s=>K E s
  |(o,m)::rest,K,E,s=>
    if m.dD=true then AX P Γ N ops [o] (jg P Γ N ops rest K) E s
    else(∀d,o.dst=some d→d<N)∧∃v,SV P Γ ops m o E s v∧jg P Γ N ops rest K (bx E o.dst v) s
theorem sY{m:SM}{o:Oper}{E E':Env}{v:AV}(h:∀d,d∈o.looksAt ops→E' d=E d)(hv:SV P Γ ops m o E s v):SV P Γ ops m o E' s v:=by
  have gP:∀x∈o.op.operands,aO Γ E' x=aO Γ E x:=fun x hx=>by
    cases x with
    |tmp t=>exact h t (List.mem_append_left _ (List.mem_filterMap.2 ⟨.tmp t,by simpa using hx,rfl⟩))
    |const v=>rfl
    |global g=>rfl
    |func f=>rfl
  cases m with
  |Ky u=>exact⟨hv.1,A9 h hv.2.1,(mz gP).2 hv.2.2⟩
  |all u=>exact⟨hv.1,fun s=>⟨A9 h (hv.2 s).1,(mz gP).2 (hv.2 s).2⟩⟩
  |val=>exact(lE h).trans hv
  |wY=>exact hv
theorem Bc{m:SM}{o:Oper}{E:Env}{v v':AV}(h:SV P Γ ops m o E s v)(h':SV P Γ ops m o E s v'):v=v':=by
  cases m with
  |Ky u=>exact h.1.trans h'.1.symm
  |all u=>exact h.1.trans h'.1.symm
  |val=>exact Option.some.inj (Eq.trans (Eq.symm h) h')
  |wY=>exact h.elim
theorem Ce{o:Oper}{m:SM}{L:List (Oper×SM)}{E:Env}{K:Env→AS→Prop}(h:jg P Γ N ops ((o,m)::L) K E s):AX P Γ N ops [o] (jg P Γ N ops L K) E s:=by
  cases m with
  |wY=>simpa only[jg,SM.dD,if_true] using h
  |Ky u=>
    simp only[jg,SM.dD,Bool.false_eq_true,if_false] at h;obtain⟨hd,v,⟨rfl,hg,hv⟩,h⟩:=h;refine(Kz hg).2 ?_;simp only[AX];exact⟨hd,iS (fun r s' ⟨h1,h2⟩=>by subst h1 h2;exact h) hv⟩
  |all u=>
    simp only[jg,SM.dD,Bool.false_eq_true,if_false] at h;obtain⟨hd,v,⟨rfl,hg⟩,h⟩:=h;obtain⟨hg,hv⟩:=hg s;refine(Kz hg).2 ?_;simp only[AX];exact⟨hd,iS (fun r s' ⟨h1,h2⟩=>by subst h1 h2;exact h) hv⟩
  |val=>
    simp only[jg,SM.dD,Bool.false_eq_true,if_false] at h;exact R9 (m:=.val) (L:=[]) (K:=jg P Γ N ops L K) (by intro e;cases e) (by simpa only[R8,GV,SV,SM.dD,Mk.dD,Bool.false_eq_true,if_false] using h)
theorem KB{o:Oper}{m:SM}{L:List (Oper×SM)}{E:Env}{a:Act}{K:Env→AS→Prop}(h:jg P Γ N ops ((o,m)::L) K E s)(hr:Rel Γ N G E s a w):
    ∃G' E' s' a' w',Rel Γ N G' E' s' a' w'∧jg P Γ N ops L K E' s'∧(∀i,o.dst≠some i→E' i=E i)∧(m.dD=false→s'=s):=by
  cases hm:m.dD with
  |true=>
    obtain⟨G',E',s',a',w',h1,h2,h3⟩:=mB (Ce h) hr;exact⟨G',E',s',a',w',h1,h2,h3,fun e=>by cases e⟩
  |false=>
    have h0:=h;simp only[jg,hm,Bool.false_eq_true,if_false] at h0;obtain⟨hd,v,hv,h0⟩:=h0;have h1:jg P Γ N ops [(o,m)] (fun E' s'=>s'=s∧E'=bx E o.dst v) E s:=by
      simp only[jg,hm,Bool.false_eq_true,if_false];exact⟨hd,v,hv,by simp⟩
    obtain⟨G',E',s',a',w',k1,⟨rfl,rfl⟩,k3⟩:=mB (Ce h1) hr;exact⟨G',_,_,a',w',k1,h0,k3,fun _=>rfl⟩
def SM.free(x y:SM):Bool:=x.isVal||y.isVal||(!x.dD&& !y.dD)
theorem Ea{y:Oper}{m:SM}(hm:m.dD=false){L2:List (Oper×SM)}{K:Env→AS→Prop}:∀(L1:List (Oper×SM)){G:Gh}{E:Env}{s:AS}{a:Act}{w:World},(∀x∈L1,fo ops x.1 y∧x.2.free m=true)→jg P Γ N ops (L1++(y,m)::L2) K E s→Rel Γ N G E s a w→
    (∀d,y.dst=some d→d<N)∧∃v,SV P Γ ops m y E s v
  |[],G,E,s,a,w,_,h,hr=>by
    simp only[List.nil_append,jg,hm,Bool.false_eq_true,if_false] at h;obtain⟨h1,v,h2,_⟩:=h;exact⟨h1,v,h2⟩
  |(x,ex)::L1,G,E,s,a,w,mb,h,hr=>by
    obtain⟨Sc,IV⟩:=mb (x,ex) (by simp);obtain⟨G',E',s',a',w',BT,hK,hf,iH⟩:=KB h hr;obtain⟨h1,v,h2⟩:=Ea hm L1 (fun x hx=>mb x (List.mem_cons_of_mem _ hx)) hK BT;have h3:SV P Γ ops m y E s' v:=sY (fun d hd=>(hf d fun e=>(Oper.apart_spec Sc).1 d e hd).symm) h2;refine⟨h1,v,?_⟩;cases hx:ex.dD with
    |false=>rw[iH hx] at h3;exact h3
    |true=>
      cases m with
      |val=>exact h3
      |all u=>exact h3
      |wY=>cases hm
      |Ky u=>cases ex<;>simp_all[SM.free,SM.isVal,SM.dD]
theorem mQ{y:Oper}{m:SM}(hm:m.dD=false){L2:List (Oper×SM)}{K:Env→AS→Prop}{v:AV}:∀(L1:List (Oper×SM)){E:Env}{s:AS},(∀x∈L1,fo ops x.1 y∧x.2.free m=true)→SV P Γ ops m y E s v→jg P Γ N ops (L1++(y,m)::L2) K E s→
    jg P Γ N ops (L1++L2) K (bx E y.dst v) s
  |[],E,s,_,hv,h=>by
    simp only[List.nil_append,jg,hm,Bool.false_eq_true,if_false] at h;obtain⟨_,u,hu,h⟩:=h;rw[Bc hv hu];exact h
  |(x,ex)::L1,E,s,mb,hv,h=>by
    obtain⟨Sc,IV⟩:=mb (x,ex) (by simp);obtain⟨a1,a2,a3⟩:=Oper.apart_spec Sc;have qy:∀x∈L1,fo ops x.1 y∧x.2.free m=true:=fun x hx=>mb x (List.mem_cons_of_mem _ hx);have Qq:∀E':Env,(∀i,x.dst≠some i→E' i=E i)→SV P Γ ops m y E' s v:=fun E' hE=>sY (fun d hd=>hE d fun e=>a1 d e hd) hv;simp only[List.cons_append,jg] at h⊢;split at h
    · rename_i he;rw[if_pos he];have hval:∀E' s',(∀i,x.dst≠some i→E' i=E i)→SV P Γ ops m y E' s' v:=by
        intro E' s' hE;have:=Qq E' hE;cases m with
        |val=>exact this
        |all u=>exact this
        |wY=>cases hm
        |Ky u=>cases ex<;>simp_all[SM.free,SM.isVal,SM.dD]
      refine(uq (fun d hd=>a3 d hd) (fun d hd e=>a2 d e hd)).2 ?_;refine cU _ (fun E' s' hE=>?_) (dh h);exact mQ hm L1 qy (hval E' s' hE.2) hE.1
    · rename_i he;rw[if_neg he];obtain⟨h0,u,hu,h⟩:=h;refine⟨h0,u,sY (fun d hd=>cw fun e=>a3 d e hd) hu,?_⟩;rw[qg (fun d h1 h2=>a2 d h2 h1)];exact mQ hm L1 qy (Qq _ fun i hi=>cw hi) h
theorem qU{y:Oper}{L2:List (Oper×SM)}{K:Env→AS→Prop}:∀(L1:List (Oper×SM)){E:Env}{s:AS},(∀x∈L1,fo ops x.1 y∧x.2.free .wY=true)→jg P Γ N ops (L1++(y,.wY)::L2) K E s→
    AX P Γ N ops [y] (jg P Γ N ops (L1++L2) K) E s
  |[],E,s,_,h=>by simpa only[List.nil_append,jg,SM.dD,if_true] using h
  |(x,ex)::L1,E,s,mb,h=>by
    obtain⟨Kb,hex⟩:=mb (x,ex) (by simp);obtain⟨a1,a2,a3⟩:=Oper.apart_spec Kb;have qy:∀x∈L1,fo ops x.1 y∧x.2.free .wY=true:=fun x hx=>mb x (List.mem_cons_of_mem _ hx);have he:ex.dD=false:=(by cases ex<;>simp_all[SM.free,SM.isVal,SM.dD]);have iH:∀(E':Env)(s1 s2:AS)(v:AV),SV P Γ ops ex x E' s1 v→SV P Γ ops ex x E' s2 v:=fun E' s1 s2 v h=>by
      cases ex<;>first |exact h|simp_all[SM.free,SM.isVal,SM.dD]
    simp only[List.cons_append,jg,he,Bool.false_eq_true,if_false] at h;obtain⟨h0,v,hv,h⟩:=h;have h1:=qU L1 qy h;have h2:=(uq (fun d hd=>a1 d hd) (fun d hd=>a2 d hd)).1 h1;refine cU _ (fun E' s' hE=>?_) (dh h2);simp only[List.cons_append,jg,he,Bool.false_eq_true,if_false];exact⟨h0,v,iH _ s _ _ (sY (fun d hd=>hE.2 d fun e=>a3 d e hd) hv),hE.1⟩
theorem pL:∀(L:List (Oper×SM)){K K':Env→AS→Prop}{E:Env}{s:AS},(∀E s,K E s→K' E s)→jg P Γ N ops L K E s→jg P Γ N ops L K' E s
  |[],K,K',E,s,hk,h=>hk _ _ h
  |x::L,K,K',E,s,hk,h=>by
    simp only[jg] at h⊢;split at h
    · rename_i he;rw[if_pos he];exact cU _ (fun E s h=>pL L hk h) h
    · rename_i he;rw[if_neg he];obtain⟨h0,v,hv,h⟩:=h;exact⟨h0,v,hv,pL L hk h⟩
theorem uG:∀(L:List (Oper×SM)){K:Env→AS→Prop}{E:Env}{s:AS},jg P Γ N ops L K E s→jg P Γ N ops L (fun E' s'=>K E' s'∧∀i,i∉cq (L.map (·.1))→E' i=E i) E s
  |[],K,E,s,h=>⟨h,fun _ _=>rfl⟩
  |(o,mm)::L,K,E,s,h=>by
    have nQ:∀i,i∉cq (((o,mm)::L).map (·.1))→i∉cq (L.map (·.1))∧o.dst≠some i:=by
      intro i hi;simp only[cq,List.map_cons,List.filterMap_cons] at hi;refine⟨fun hm=>hi ?_,fun e=>hi (by simp[e])⟩;simp only[cq] at hm;split
      · exact hm
      · exact List.mem_cons_of_mem _ hm
    simp only[jg] at h⊢;split at h
    · rename_i he;rw[if_pos he];refine cU _ (fun E' s' hE=>?_) (dh h);refine pL L (fun kq iI DC=>⟨DC.1,fun i hi=>?_⟩) (uG L hE.1);obtain⟨m1,m2⟩:=nQ i hi;rw[DC.2 i m1,hE.2 i m2]
    · rename_i he;rw[if_neg he];obtain⟨h0,v,hv,h⟩:=h;refine⟨h0,v,hv,pL L (fun kq iI DC=>⟨DC.1,fun i hi=>?_⟩) (uG L h)⟩;obtain⟨m1,m2⟩:=nQ i hi;rw[DC.2 i m1,cw m2]
def ff(ops:Array Oper)(mk:Nat→SM)(i:Nat):Oper×SM:=((ops[i]?).getD default,mk i)
def okS(ops:Array Oper)(D:List Nat)(mk:Nat→SM)(x y i j:Nat):Bool:=
  (D.getD j 0).testBit i||(((ops[i]?).getD default).apart ops ((ops[j]?).getD default)&&(mk i).free (mk j))||(i==x&&j==y)
def pwS(R:Nat→Nat→Bool):List Nat→Bool
  |[]=>true
  |i::l=>l.all (fun j=>R i j&&i != j)&&pwS R l
def uH(ops:Array Oper)(D:List Nat)(mk:Nat→SM)(x y:Nat)(π:List Nat):Bool:=pwS (okS ops D mk x y) π&&((List.range ops.size).all fun i=>π.contains i)&&π.all fun i=>decide (i<ops.size)
def sq(π:List Nat)(listed:Array Bool):List Nat:=π.filter fun i=>!listed.getD i true
theorem HE{R:Nat→Nat→Bool}{listed:Array Bool}{i:Nat}(hi:i<listed.size)(h0:listed.getD i true=false):∀{π:List Nat},pwS R π=true→i∈π→
    ∃L1 L2,sq π listed=L1++i::L2∧sq π (listed.setIfInBounds i true)=L1++L2∧∀z∈L1,R z i=true∧z≠i∧listed.getD z true=false
  |[],_,h=>by cases h
  |k::π,hp,hm=>by
    simp only[pwS,Bool.and_eq_true,List.all_eq_true,bne_iff_ne] at hp;obtain⟨h1,h2⟩:=hp;have cr:∀z,z≠i→(listed.setIfInBounds i true).getD z true=listed.getD z true:=by
      intro z hz;simp only[Array.getD_eq_getD_getElem?];rw[Array.getElem?_setIfInBounds_ne (by omega)]
    have hsi:(listed.setIfInBounds i true).getD i true=true:=by
      simp[Array.getD_eq_getD_getElem?,hi]
    by_cases e:k=i
    · subst e;refine⟨[],sq π listed,?_,?_,by simp⟩
      · simp only[sq,List.filter_cons,h0,Bool.not_false,if_true,List.nil_append]
      · simp only[sq,List.filter_cons,hsi,Bool.not_true,Bool.false_eq_true,if_false,List.nil_append];apply List.filter_congr;intro z hz;rw[cr z (fun q=>(h1 z hz).2 q.symm)]
    · obtain⟨L1,L2,q1,q2,q3⟩:=HE (R:=R) hi h0 h2 ((List.mem_cons.1 hm).resolve_left fun q=>e q.symm);cases hk:listed.getD k true with
      |true=>
        refine⟨L1,L2,?_,?_,q3⟩
        · simp only[sq,List.filter_cons,hk,Bool.not_true,Bool.false_eq_true,if_false];exact q1
        · simp only[sq,List.filter_cons,cr k e,hk,Bool.not_true,Bool.false_eq_true,if_false];exact q2
      |false=>
        refine⟨k::L1,L2,?_,?_,?_⟩
        · simp only[sq,List.filter_cons,hk,Bool.not_false,if_true,List.cons_append];rw[←q1];rfl
        · simp only[sq,List.filter_cons,cr k e,hk,Bool.not_false,if_true,List.cons_append];rw[←q2];rfl
        · intro z hz;rcases List.mem_cons.1 hz with rfl|hz
          · have Hs:i∈π:=(List.mem_cons.1 hm).resolve_left fun q=>e q.symm;exact⟨(h1 i Hs).1,e,hk⟩
          · exact q3 z hz
theorem KC{D:List Nat}{mk:Nat→SM}{x y i j:Nat}{o:Oper}(ho:ops[j]? =some o)(h:okS ops D mk x y i j=true):(D.getD j 0).testBit i=true∨(fo ops ((ops[i]?).getD default) o∧(mk i).free (mk j)=true)∨(i=x∧j=y):=by
  simp only[okS,Bool.or_eq_true,Bool.and_eq_true,beq_iff_eq,ho,Option.getD_some] at h;rcases h with(h|h)|h
  · exact .inl h
  · exact .inr (.inl h)
  · exact .inr (.inr h)
theorem IZ{listed:Array Bool}(zD:AH ops (Region.before ops).toList=true)(h:Region.ready .any ops listed=[]):left ops listed=[]:=by
  cases hl:left ops listed with
  |nil=>rfl
  |cons i L=>
    exfalso;have hi:i∈left ops listed:=(by rw[hl];simp);obtain⟨h1,h2⟩:=mem_left.1 hi;have BV:∀j,j<i→listed.getD j true=true:=by
      intro j hj;cases FP:listed.getD j true with
      |true=>rfl
      |false=>
        exfalso;have Hr:j∈left ops listed:=mem_left.2 ⟨by omega,FP⟩;have hs:(left ops listed).Pairwise (· < ·):=by
          unfold left;exact List.Pairwise.filter _ List.pairwise_lt_range
        rw[hl] at hs Hr;rcases List.mem_cons.1 Hr with rfl|Hr
        · omega
        · have:=(List.pairwise_cons.1 hs).1 j Hr;omega
    have ho:ops[i]? =some ops[i]:=(by simp[h1]);have hr:i∈Region.ready .any ops listed:=by
      rw[mem_ready];refine⟨h2,_,ho,fun e he hb=>?_⟩;have bJ:=(iT zD ho).2 e (by simpa using he) hb;have:=BV _ bJ;have eR:e.on<listed.size:=by
        rcases Nat.lt_or_ge e.on listed.size with h'|h'
        · exact h'
        · exfalso;have :listed.getD i true=true:=by
            simp[Array.getElem?_eq_none (show listed.size≤i by omega)]
          rw[h2] at this;cases this
      simpa[eR] using this
    rw[h] at hr;cases hr
def yc(ops:Array Oper)(mk:Nat→SM)(x y:Nat)(π1 π2:List Nat):Bool:=
  AH ops (Region.before ops).toList&&uH ops (Region.before ops).toList mk x y π1&&(ops.size≤x||(uH ops (Region.before ops).toList mk y x π2&&x != y&&(mk x).dD&&(mk y).dD&&x<ops.size&&y<ops.size&&
    (List.range ops.size).all fun i=>!(mk i).dD||i==x||i==y||((Region.before ops).toList.getD i 0).testBit x))
theorem Cf{mk:Nat→SM}{x y:Nat}{π1 π2:List Nat}{Q:Exit→Act→World→Prop}{K:Env→AS→Prop}(iN:yc ops mk x y π1 π2=true):
    ∀(fuel:Nat)(listed:Array Bool){G:Gh}{E:Env}{s:AS}{a:Act}{w:World},listed.size=ops.size→(left ops listed).length≤fuel→
      (∀(i:Nat)(o:Oper),ops[i]? =some o→listed.getD i true=true→∀e∈o.after.toList,Region.binds .any e=true→listed.getD e.on false=true)→
      ((listed.getD x true=false∧listed.getD y true=false∧jg P Γ N ops ((sq π1 listed).map (ff ops mk)) K E s∧jg P Γ N ops ((sq π2 listed).map (ff ops mk)) K E s)∨
        ∃π u v,uH ops (Region.before ops).toList mk u v π=true∧listed.getD u true=true∧jg P Γ N ops ((sq π listed).map (ff ops mk)) K E s)→Rel Γ N G E s a w→
      (∀G' E' s' a' w',G.le G'→Rel Γ N G' E' s' a' w'→K E' s'→Q .normal a' w')→wpAnyIn (uo rd) 0 P .any ops Q fuel listed a w:=by
  simp only[yc,Bool.and_eq_true,Bool.or_eq_true,decide_eq_true_eq] at iN
  obtain⟨⟨zD,QC⟩,KD⟩:=iN
  simp only[uH,Bool.and_eq_true] at QC
  have bG:∀(listed:Array Bool),listed.size=ops.size→∀{π:List Nat},Region.ready .any ops listed=[]→sq π listed=[]:=by
    intro listed eR π h
    have h1:=IZ zD h
    unfold sq
    rw[List.filter_eq_nil_iff]
    intro i _ hi
    have aY:listed.getD i true=false:=by simpa using hi
    have bJ:i<ops.size:=by
      rw[←eR]
      rcases Nat.lt_or_ge i listed.size with q|q
      · exact q
      · simp[Array.getElem?_eq_none q] at aY
    have :i∈left ops listed:=mem_left.2 ⟨bJ,aY⟩
    rw[h1] at this
    cases this
  have qz:∀(listed:Array Bool){E:Env}{s:AS},listed.size=ops.size→Region.ready .any ops listed=[]→
      ((listed.getD x true=false∧listed.getD y true=false∧jg P Γ N ops ((sq π1 listed).map (ff ops mk)) K E s∧jg P Γ N ops ((sq π2 listed).map (ff ops mk)) K E s)∨
        ∃π u v,uH ops (Region.before ops).toList mk u v π=true∧listed.getD u true=true∧jg P Γ N ops ((sq π listed).map (ff ops mk)) K E s)→K E s:=by
    rintro listed E s eR h (⟨_,_,h1,_⟩|⟨π,_,_,_,_,h1⟩)
    · rwa [bG listed eR h] at h1
    · rwa [bG listed eR h] at h1
  intro fuel
  induction fuel with
  |zero=>
    intro listed G E s a w eR hlen iF h1 hr hq
    have hl:left ops listed=[]:=List.eq_nil_of_length_eq_zero (by omega)
    have ks:Region.ready .any ops listed=[]:=by
      cases RN:Region.ready .any ops listed with
      |nil=>rfl
      |cons i L=>
        exfalso
        have :i∈Region.ready .any ops listed:=by rw[RN];simp
        rw[mem_ready] at this
        obtain⟨h0,o,ho,_⟩:=this
        have :i∈left ops listed:=mem_left.2 ⟨(Array.getElem?_eq_some_iff.1 ho).1,h0⟩
        rw[hl] at this
        cases this
    exact⟨ks,hq G E s a w (.refl G) hr (qz listed eR ks h1)⟩
  |succ fuel ih=>
    intro listed G E s a w eR hlen iF hI hr hq
    refine⟨fun ks=>hq G E s a w (.refl G) hr (qz listed eR ks hI),fun i hi=>?_⟩
    obtain⟨h0,o,ho,bT⟩:=mem_ready.1 hi
    have zE:i<ops.size:=(Array.getElem?_eq_some_iff.1 ho).1
    obtain⟨M1,M2,q1,q2,_⟩:=xz eR zE h0
    have sH:∀(j:Nat)(oj:Oper),ops[j]? =some oj→(∀e∈oj.after.toList,Region.binds .any e=true→listed.getD e.on false=true)→∀l,((Region.before ops).toList.getD j 0).testBit l=true→listed.getD l false=true:=by
      intro j
      induction j using Nat.strongRecOn with
      |_ j UE=>
        intro oj AJ hj l hl
        obtain⟨d1,d2⟩:=iT zD AJ
        obtain⟨e,he,hb,h1⟩:=d1 l hl
        have vq:=hj e he hb
        rcases h1 with rfl|h1
        · exact vq
        · have bJ:=d2 e he hb
          have UF:e.on<ops.size:=by
            have:=(Array.getElem?_eq_some_iff.1 AJ).1
            omega
          have Dz:ops[e.on]? =some ops[e.on]:=by simp[UF]
          refine UE e.on bJ _ Dz (iF e.on _ Dz ?_) l h1
          have :e.on<listed.size:=by omega
          simpa[this] using vq
    have hnb:∀z,listed.getD z true=false→((Region.before ops).toList.getD i 0).testBit z=true→False:=by
      intro z hz hb
      have h3:=sH i o ho (fun e he hb=>bT e (by simpa using he) hb) z hb
      rcases Nat.lt_or_ge z listed.size with q|q
      · simp[q] at h3 hz
        rw[hz] at h3;cases h3
      · simp[Array.getElem?_eq_none q] at h3
    have cr:∀z,(listed.setIfInBounds i true).getD z true=if z=i then true else listed.getD z true:=by
      intro z
      simp only[Array.getD_eq_getD_getElem?]
      by_cases e:z=i
      · subst e;rw[if_pos rfl];simp[eR,zE]
      · rw[if_neg e,Array.getElem?_setIfInBounds_ne (by omega)]
    have vH:∀{G':Gh}{E':Env}{s':AS}{a':Act}{w':World},G.le G'→
        (((listed.setIfInBounds i true).getD x true=false∧(listed.setIfInBounds i true).getD y true=false∧jg P Γ N ops ((sq π1 (listed.setIfInBounds i true)).map (ff ops mk)) K E' s'∧jg P Γ N ops ((sq π2 (listed.setIfInBounds i true)).map (ff ops mk)) K E' s')∨
          ∃π u v,uH ops (Region.before ops).toList mk u v π=true∧(listed.setIfInBounds i true).getD u true=true∧jg P Γ N ops ((sq π (listed.setIfInBounds i true)).map (ff ops mk)) K E' s')→Rel Γ N G' E' s' a' w'→wpAnyIn (uo rd) 0 P .any ops Q fuel (listed.setIfInBounds i true) a' w':=by
      intro G' E' s' a' w' hle g1 BT
      refine ih (listed.setIfInBounds i true) (by simpa using eR) ?_ ?_ g1 BT (fun vp kq iI zB wj k1 k2 k3=>hq vp kq iI zB wj (hle.trans k1) k2 k3)
      · rw[q2]
        rw[q1] at hlen
        simp at hlen⊢
        omega
      · intro j oj AJ hj e he hb
        by_cases DA:j=i
        · subst DA
          rw[ho] at AJ;cases AJ
          exact getD_set_true (bT e (by simpa using he) hb)
        · rw[getD_set_ne true (Ne.symm DA)] at hj
          exact getD_set_true (iF j oj AJ hj e he hb)
    have gP:ff ops mk i=(o,mk i):=by simp[ff,ho]
    -- a list, with the place i taken out of it
    have kO:∀{π:List Nat}{u v:Nat},uH ops (Region.before ops).toList mk u v π=true→(v≠i∨listed.getD u true=true)→∃L1 L2,sq π listed=L1++i::L2∧sq π (listed.setIfInBounds i true)=L1++L2∧
        ∀z∈L1.map (ff ops mk),fo ops z.1 o∧z.2.free (mk i)=true:=by
      intro π u v hπ hv
      simp only[uH,Bool.and_eq_true,List.all_eq_true] at hπ
      have him:i∈π:=by
        have:=hπ.1.2 i (by simpa using zE)
        simpa using this
      obtain⟨L1,L2,w1,w2,w3⟩:=HE (R:=okS ops (Region.before ops).toList mk u v) (by omega) h0 hπ.1.1 him
      refine⟨L1,L2,w1,w2,fun z hz=>?_⟩
      obtain⟨j,hj,rfl⟩:=List.mem_map.1 hz
      obtain⟨j1,j2,j3⟩:=w3 j hj
      rcases KC ho j1 with k|k|⟨k1,k2⟩
      · exact(hnb j j3 k).elim
      · exact k
      · rcases hv with hv|hv
        · exact absurd k2.symm hv
        · rw[k1,hv] at j3;cases j3
    have Gc:uH ops (Region.before ops).toList mk x y π1=true:=by simp only[uH,Bool.and_eq_true];exact QC
    -- the place i taken first, in one list
    have dN:∀{π:List Nat}{u v:Nat},uH ops (Region.before ops).toList mk u v π=true→(v≠i∨listed.getD u true=true)→jg P Γ N ops ((sq π listed).map (ff ops mk)) K E s→
        AX P Γ N ops [o] (jg P Γ N ops ((sq π (listed.setIfInBounds i true)).map (ff ops mk)) K) E s∧
        ((mk i).dD=false→(∀d,o.dst=some d→d<N)∧∃v,SV P Γ ops (mk i) o E s v∧jg P Γ N ops ((sq π (listed.setIfInBounds i true)).map (ff ops mk)) K (bx E o.dst v) s):=by
      intro π u v hπ hv h
      obtain⟨L1,L2,w1,w2,w3⟩:=kO hπ hv
      rw[w1,List.map_append,List.map_cons,gP] at h
      rw[w2,List.map_append]
      cases hf:(mk i).dD with
      |false=>
        obtain⟨hd,v,hv⟩:=Ea hf _ w3 h hr
        have h1:=mQ hf _ w3 hv h
        refine⟨Ce (m:=mk i) ?_,fun _=>⟨hd,v,hv,h1⟩⟩
        simp only[jg,hf,Bool.false_eq_true,if_false]
        exact⟨hd,v,hv,h1⟩
      |true=>
        have hme:mk i=.wY:=by
          cases hm:mk i with
          |wY=>rfl
          |val=>rw[hm] at hf;cases hf
          |Ky u=>rw[hm] at hf;cases hf
          |all u=>rw[hm] at hf;cases hf
        rw[hme] at h w3
        exact⟨qU _ w3 h,fun e=>by cases e⟩
    rcases hI with⟨hx,hy,r1,r2⟩|⟨π,u,v,hπ,hu,r1⟩
    · have UH:¬ops.size≤x:=by
        intro q
        rw[Array.getD_eq_getD_getElem?,Array.getElem?_eq_none (by omega)] at hx
        cases hx
      rcases KD with q|q
      · exact absurd q UH
      simp only[Bool.and_eq_true,bne_iff_ne,List.all_eq_true,decide_eq_true_eq] at q
      obtain⟨⟨⟨⟨⟨⟨o2,T5⟩,ex⟩,ey⟩,_⟩,_⟩,mO⟩:=q
      by_cases ix:i=x
      · subst ix
        exact je (L:=[]) ho (dN Gc (.inl (Ne.symm T5)) r1).1 hr fun G' E' s' a' w' k1 k2 k3=>vH k1 (.inr ⟨π1,i,y,Gc,by rw[cr,if_pos rfl],k3⟩) k2
      by_cases iy:i=y
      · subst iy
        exact je (L:=[]) ho (dN o2 (.inl T5) r2).1 hr fun G' E' s' a' w' k1 k2 k3=>vH k1 (.inr ⟨π2,i,x,o2,by rw[cr,if_pos rfl],k3⟩) k2
      cases hf:(mk i).dD with
      |true=>
        have:=mO i (by simpa using zE)
        simp only[hf,Bool.not_true,Bool.false_or,Bool.or_eq_true,beq_iff_eq] at this
        rcases this with(k|k)|k
        · exact absurd k ix
        · exact absurd k iy
        · exact(hnb x hx k).elim
      |false=>
        obtain⟨hd,v1,hv1,g1⟩:=(dN Gc (.inl (Ne.symm iy)) r1).2 hf
        obtain⟨_,v2,hv2,g2⟩:=(dN o2 (.inl (Ne.symm ix)) r2).2 hf
        obtain rfl:=Bc hv1 hv2
        have hX:jg P Γ N ops [(o,mk i)] (fun E' s'=>jg P Γ N ops ((sq π1 (listed.setIfInBounds i true)).map (ff ops mk)) K E' s'∧jg P Γ N ops ((sq π2 (listed.setIfInBounds i true)).map (ff ops mk)) K E' s') E s:=by
          simp only[jg,hf,Bool.false_eq_true,if_false]
          exact⟨hd,v1,hv1,g1,g2⟩
        exact je (L:=[]) ho (Ce hX) hr fun G' E' s' a' w' k1 k2 k3=>vH k1 (.inl ⟨by rw[cr,if_neg (Ne.symm ix)];exact hx,by rw[cr,if_neg (Ne.symm iy)];exact hy,k3.1,k3.2⟩) k2
    · exact je (L:=[]) ho (dN hπ (.inr hu) r1).1 hr fun G' E' s' a' w' k1 k2 k3=>vH k1 (.inr ⟨π,u,v,hπ,by rw[cr];split;rfl;exact hu,k3⟩) k2
theorem sZ{E:Env}{Q:Exit→Env→AS→Prop}(hm:P.follows .mixedOrders=true){mk:Nat→SM}{x y:Nat}{π1 π2:List Nat}{id:Nat}(iN:yc ops mk x y π1 π2=true)
    (h1:jg P Γ N ops (π1.map (ff ops mk)) (fun E' s'=>Q .normal E' s') E s) (h2:x<ops.size→jg P Γ N ops (π2.map (ff ops mk)) (fun E' s'=>Q .normal E' s') E s):cp P Γ N (.region id ops true) Q E s:=by
  intro G a w hr;refine wpIn_region_any hm ?_;have BT:Rel Γ N G E s a w.drew:=⟨hr.st.drew,hr.size,hr.tmps,hr.defers⟩;have fb:∀i,(Array.replicate ops.size false).getD i true=decide (ops.size≤i):=by
    intro i;rw[Array.getD_eq_getD_getElem?,Array.getElem?_replicate];by_cases h:i<ops.size
    · rw[if_pos h,decide_eq_false (by omega)];rfl
    · rw[if_neg h,decide_eq_true (by omega)];rfl
  have hlen:(left ops (Array.replicate ops.size false)).length≤ops.size:=by
    unfold left;exact Nat.le_trans (List.length_filter_le _ _) (by simp)
  have xby:=iN;simp only[yc,Bool.and_eq_true,Bool.or_eq_true,decide_eq_true_eq,uH,List.all_eq_true] at iN;obtain⟨⟨_,hp1⟩,KD⟩:=iN;have key:∀{π:List Nat},(∀i∈π,i<ops.size)→jg P Γ N ops (π.map (ff ops mk)) (fun E' s'=>Q .normal E' s') E s→
      jg P Γ N ops ((sq π (Array.replicate ops.size false)).map (ff ops mk)) (fun E' s'=>Q .normal E' s'∧∀i,i∉cq ops.toList→E' i=E i) E s:=by
    intro π bJ h;have e:sq π (Array.replicate ops.size false)=π:=by
      unfold sq;rw[List.filter_eq_self];intro i hi;have:=bJ i hi;rw[fb,decide_eq_false (by omega)];rfl
    rw[e];refine pL _ (fun E' s' k=>⟨k.1,fun i hi=>k.2 i fun hm=>hi ?_⟩) (uG _ h);simp only[cq,List.mem_filterMap,List.mem_map] at hm⊢;obtain⟨o,⟨_,⟨j,hj,rfl⟩,rfl⟩,hd⟩:=hm;have FP:=bJ j hj;refine⟨_,?_,hd⟩;simp[ff,FP]
  refine Cf (K:=fun E' s'=>Q .normal E' s'∧∀i,i∉cq ops.toList→E' i=E i) xby ops.size (Array.replicate ops.size false) (by simp) hlen ?_ ?_ BT ?_
  · intro i o ho hl;have :i<ops.size:=(Array.getElem?_eq_some_iff.1 ho).1;simp[this] at hl
  · by_cases hx:ops.size≤x
    · exact .inr ⟨π1,x,y,by simp only[uH,Bool.and_eq_true,List.all_eq_true,decide_eq_true_eq];exact hp1,by rw[fb,decide_eq_true hx],key hp1.2 h1⟩
    · rcases KD with q|q
      · exact absurd q hx
      obtain⟨⟨⟨⟨⟨⟨FA,_⟩,_⟩,_⟩,_⟩,hy⟩,_⟩:=q;exact .inl ⟨by rw[fb,decide_eq_false hx],by rw[fb,decide_eq_false (by omega)],key hp1.2 h1,key FA.2 (h2 (by omega))⟩
  · intro G' E' s' a' w' k1 k2 k3;exact⟨G',E',s',k1,k2,k3.1,fun i hi=>k3.2 i hi⟩
def mkS(fl:List Nat)(gv:List (Nat×AV))(i:Nat):SM:=if fl.contains i=true then .wY else match oE gv i with |some v=>.Ky v|none=>match oE gv (i+1000) with |some v=>.all v|none=>.val
def Bd(P:Program)(Γ:Nat→List AV)(N:Nat)(ops:Array Oper)(o:Oper)(s:AS)(v:AV)(C:Env→Prop)(E:Env):Prop:=(∀d,o.dst=some d→d<N)∧Gb P Γ ops o E s v∧C (bx E o.dst v)
def KE(P:Program)(Γ:Nat→List AV)(k:FuncId)(xs:List AV)(s:AS)(v:AV)(c:Prop):Prop:=aj P Γ k xs s (fun r s'=>r=v∧s'=s)∧c
theorem nW{dst:Option Tmp}{k:FuncId}{args:Array Operand}{aT:Array TypeId}{ty:TypeId}{pos:String}{after:Array Edge}{gd:Option (Nat×Bool)}{v:AV}{C:Env→Prop}{E:Env}:
    Bd P Γ N ops {dst:=dst,op:=.call {callee:=.value (.func k),args:=args,argTypes:=aT},type:=ty,pos:=pos,after:=after,guard:=gd} s v C E=
      ((∀d,dst=some d→d<N)∧rE ops {dst:=dst,op:=.call {callee:=.value (.func k),args:=args,argTypes:=aT},type:=ty,pos:=pos,after:=after,guard:=gd} E∧ag P k=true∧KE P Γ k (args.toList.map (aO Γ E)) s v (C (bx E dst v))):=by
  apply propext;simp only[Bd,Gb,KE,b8,cH,dj,aO];constructor
  · rintro⟨h1,⟨h2,h3⟩,h4⟩;exact⟨h1,h2,h3.2.2.1,h3.2.2.2,h4⟩
  · rintro⟨h1,h2,h3,h4,h5⟩;exact⟨h1,⟨h2,rfl,rfl,h3,h4⟩,h5⟩
theorem nX{dst:Option Tmp}{T:TypeId}{x:Operand}{ty:TypeId}{pos:String}{after:Array Edge}{gd:Option (Nat×Bool)}{v:AV}{C:Env→Prop}{E:Env}:
    Bd P Γ N ops {dst:=dst,op:=.load T x,type:=ty,pos:=pos,after:=after,guard:=gd} s v C E=
      ((∀d,dst=some d→d<N)∧rE ops {dst:=dst,op:=.load T x,type:=ty,pos:=pos,after:=after,guard:=gd} E∧b8 P Γ (aO Γ E) s (fun r s'=>r=v∧s'=s) (.load T x)∧C (bx E dst v)):=by
  apply propext;simp only[Bd,Gb,and_assoc]
def HF(P:Program)(Γ:Nat→List AV)(N:Nat)(ops:Array Oper)(o:Oper)(v:AV)(C:Env→Prop)(E:Env):Prop:=(∀d,o.dst=some d→d<N)∧(∀s,Gb P Γ ops o E s v)∧C (bx E o.dst v)
def Gd(P:Program)(Γ:Nat→List AV)(k:FuncId)(xs:List AV)(v:AV)(c:Prop):Prop:=(∀s,aj P Γ k xs s (fun r s'=>r=v∧s'=s))∧c
theorem HG{k:FuncId}{xs:List AV}{v:AV}{c:Prop}(h:∀s,aj P Γ k xs s (fun r s'=>r=v∧s'=s))(hc:c):Gd P Γ k xs v c:=⟨h,hc⟩
theorem nY{dst:Option Tmp}{k:FuncId}{args:Array Operand}{aT:Array TypeId}{ty:TypeId}{pos:String}{after:Array Edge}{gd:Option (Nat×Bool)}{v:AV}{C:Env→Prop}{E:Env}:
    HF P Γ N ops {dst:=dst,op:=.call {callee:=.value (.func k),args:=args,argTypes:=aT},type:=ty,pos:=pos,after:=after,guard:=gd} v C E=
      ((∀d,dst=some d→d<N)∧rE ops {dst:=dst,op:=.call {callee:=.value (.func k),args:=args,argTypes:=aT},type:=ty,pos:=pos,after:=after,guard:=gd} E∧ag P k=true∧Gd P Γ k (args.toList.map (aO Γ E)) v (C (bx E dst v))):=by
  apply propext;simp only[HF,Gb,Gd,b8,cH,dj,aO];constructor
  · rintro⟨h1,h2,h4⟩;exact⟨h1,(h2 ⟨fun _=>none,fun _=>none⟩).1,(h2 ⟨fun _=>none,fun _=>none⟩).2.2.2.1,fun s=>(h2 s).2.2.2.2,h4⟩
  · rintro⟨h1,h2,h3,h4,h5⟩;exact⟨h1,fun s=>⟨h2,rfl,rfl,h3,h4 s⟩,h5⟩
def Eb(P:Program)(Γ:Nat→List AV)(N:Nat)(L:List Oper)(fl:List Nat)(gv:List (Nat×AV)):List Nat→(Env→AS→Prop)→Env→AS→Prop
  |[],K,E,s=>K E s
  |i::π,K,E,s=>
    if fl.contains i=true then AX P Γ N L.toArray [L.getD i default] (Eb P Γ N L fl gv π K) E s
    else match oE gv i with
      |some v=>Bd P Γ N L.toArray (L.getD i default) s v (fun E=>Eb P Γ N L fl gv π K E s) E
      |none=>match oE gv (i+1000) with
      |some v=>HF P Γ N L.toArray (L.getD i default) v (fun E=>Eb P Γ N L fl gv π K E s) E
      |none=>((∀d,(L.getD i default).dst=some d→d<N)∧match bN P Γ L.toArray (L.getD i default) E with |some v=>Eb P Γ N L fl gv π K (bx E (L.getD i default).dst v) s|none=>False)
theorem KF:∃f:Program→(Nat→List AV)→Nat→List Oper→List Nat→List (Nat×AV)→List Nat→(Env→AS→Prop)→Env→AS→Prop,f=Eb:=⟨_,rfl⟩
noncomputable def QD:Program→(Nat→List AV)→Nat→List Oper→List Nat→List (Nat×AV)→List Nat→(Env→AS→Prop)→Env→AS→Prop:=Classical.choose KF
theorem axw:QD=Eb:=Classical.choose_spec KF
theorem xa{L:List Oper}{fl:List Nat}{gv:List (Nat×AV)}{K:Env→AS→Prop}{E:Env}:QD P Γ N L fl gv [] K E s=K E s:=by rw[axw];rfl
theorem ta{L:List Oper}{fl:List Nat}{gv:List (Nat×AV)}{i:Nat}{π:List Nat}{K:Env→AS→Prop}{E:Env}:QD P Γ N L fl gv (i::π) K E s=
    if fl.contains i=true then AY P Γ N L.toArray [L.getD i default] (QD P Γ N L fl gv π K) E s
    else match oE gv i with
      |some v=>Bd P Γ N L.toArray (L.getD i default) s v (fun E=>QD P Γ N L fl gv π K E s) E
      |none=>match oE gv (i+1000) with
      |some v=>HF P Γ N L.toArray (L.getD i default) v (fun E=>QD P Γ N L fl gv π K E s) E
      |none=>((∀d,(L.getD i default).dst=some d→d<N)∧match bN P Γ L.toArray (L.getD i default) E with |some v=>QD P Γ N L fl gv π K (bx E (L.getD i default).dst v) s|none=>False):=by rw[axw,ay];rfl
theorem Ec{L:List Oper}{fl:List Nat}{gv:List (Nat×AV)}{K:Env→AS→Prop}:∀(π:List Nat){E:Env}{s:AS},Eb P Γ N L fl gv π K E s→jg P Γ N L.toArray (π.map (ff L.toArray (mkS fl gv))) K E s
  |[],E,s,h=>h
  |i::π,E,s,h=>by
    have ho:(L.toArray[i]?).getD default=L.getD i default:=(by simp[List.getD]);simp only[Eb] at h;simp only[List.map_cons,jg,ff,ho,mkS];cases hf:fl.contains i with
    |true=>
      rw[hf] at h;simp only[if_true,SM.dD] at h⊢;exact cU _ (fun E' s' hE=>Ec π hE) h
    |false=>
      rw[hf] at h;simp only[Bool.false_eq_true,if_false] at h⊢;cases hg:oE gv i with
      |some v=>
        rw[hg] at h;simp only[SM.dD,Bool.false_eq_true,if_false];obtain⟨h1,h2,h3⟩:=h;exact⟨h1,v,⟨rfl,h2⟩,Ec π h3⟩
      |none=>
        rw[hg] at h;cases Oh:oE gv (i+1000) with
        |some v=>
          rw[Oh] at h;simp only[Oh,SM.dD,Bool.false_eq_true,if_false];obtain⟨h1,h2,h3⟩:=h;exact⟨h1,v,⟨rfl,h2⟩,Ec π h3⟩
        |none=>
          rw[Oh] at h;simp only[Oh,SM.dD,Bool.false_eq_true,if_false];refine⟨h.1,?_⟩;have h:=h.2;split at h
          · rename_i v hv;exact⟨v,hv,Ec π h⟩
          · exact h.elim
theorem pM{E:Env}{Q:Exit→Env→AS→Prop}(hm:P.follows .mixedOrders=true)(fl:List Nat)(gv:List (Nat×AV))(π:List Nat){id:Nat}{L:List Oper}{y:Code}(iN:yc L.toArray (mkS fl gv) L.length 0 π []=true)
    (h:∀K:Env→AS→Prop,(∀E s,cp P Γ N y Q E s→K E s)→QD P Γ N L fl gv π K E s):cp P Γ N (.seq (.region id L.toArray true) y) Q E s:=by
  refine kQ (sZ hm iN (Ec π ?_) (fun q=>absurd q (by simp)));have:=h _ (fun _ _ h=>h);rwa [axw] at this
end Go.AM
