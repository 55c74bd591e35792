/- An abstract machine for the model and the rules of its walk, each proved sound over the model; no condition. -/
import Derived.Test.YtbiefppedlodiaaGreatDoorAMp6
import Derived.Shelf.Spec.SlicesInsertGrow
set_option linter.unusedSimpArgs false
set_option linter.unusedVariables false
namespace Go.AM
open Go Go.RowKit
variable{P:Program}{Γ:Nat→List AV}{G:Gh}{s:AS}{w:World}{N:Nat}
theorem uP(need old:Nat)(e:TypeId)(x:Nat)(h:need<2^63):(Question.appendCap need old e).cut x<2^63:=by
  have bJ:=Nat.mod_lt x (show 0<2^63-need by omega);simp only[Question.cut];omega
theorem uQ{m:Nat}{u:Value}(eO:∀w',(Builtin.lenOf u).run P w'=.ok m w'){T xT e:TypeId}(hT:P.underlying T=some (.slice e))(hx:kR P (some xT)=true)
    {z:List AV} (he:pt P e z)
    {base:Option Addr} {n cap:Nat} {olds news:List Value} (hold:∀w',(∀b j,w'.cell? ⟨b,j,none⟩=w.cell? ⟨b,j,none⟩)→(Builtin.firstCells (P.cellsOf e) n (.slice base n cap)).run P w'=.ok olds.toArray w')
    (lI:∀w',(∀b j,w'.cell? ⟨b,j,none⟩=w.cell? ⟨b,j,none⟩)→(Builtin.firstCells (P.cellsOf e) m u).run P w'=.ok news.toArray w')
    (hg:cap<n+m) (bT:(n+m)*P.bytesOf e≤2^46) (B6:n+m≤2^46) (ty:TypeId):
    ∃(kZ:Nat)(rest:List Value),n+m≤kZ∧kZ<2^63∧rest.length=(kZ-(n+m))*P.cellsOf e∧
      (Builtin.append_ #[T,xT] ty #[.slice base n cap,u]).run P w=.ok (.slice (some ⟨w.heap.size,0,none⟩) (n+m) kZ) (w.drew.alloc (.cells ((olds++news)++rest).toArray e)):=by
  obtain⟨hz,fa,sQ⟩:=he;obtain⟨zv,Ki,xx⟩:=dD hz;obtain⟨i,hi⟩:=eZ fa;have hb:P.bytesOf e=i.bytes:=(by simp[Program.bytesOf,hi]);have HP:∀w',(typeInfo e).run P w'=.ok i w':=(fun w'=>by simp[typeInfo,hi]);have Sv:¬(n+m≤cap):=(by omega);have nL:¬(9223372036854775807<(n:Int)+(m:Int)):=(by omega);have uC:=nextslicecap_le (need:=n+m) (old:=cap) hg;have nM:¬(2^48<Builtin.nextslicecap (n+m) cap*i.bytes):=by
    rw[hb] at bT;have h2:Builtin.nextslicecap (n+m) cap*i.bytes≤2*(n+m)*i.bytes:=Nat.mul_le_mul_right _ uC;rw[Nat.mul_assoc] at h2;omega
  have sQ:zv.cells.size=P.cellsOf e:=by
    rw[xx] at sQ;simpa using sQ
  have xA:=hold w.drew (fun b j=>rfl);have hn1:=lI w.drew (fun b j=>rfl);refine⟨_,(Builtin.zeroCells zv.cells ((Question.appendCap (n+m) cap e).cut (w.tape w.drawn (.appendCap (n+m) cap e))-(n+m))).toList,fb (n+m) cap e (w.tape w.drawn (.appendCap (n+m) cap e)),uP (n+m) cap e (w.tape w.drawn (.appendCap (n+m) cap e)) (by omega),?_,?_⟩
  · simp[Builtin.zeroCells,sQ]
  · have hf:(Question.appendCap (n+m) cap e).forced=false:=rfl;rcases nK hx with⟨e',hx⟩|hx;all_goals
      simp[Builtin.append_,run_underlying hT,aS fa,run_underlying hx,eO,Sv,HP,nL,nM,hf,xA,hn1,Ki,newRow];congr 2;apply Array.ext';simp[List.append_assoc]
def ni(sz:Nat)(s:AS)(x:AV)(n:Nat)(cs:List AV):Prop:=
  (n=0∧cs=[]∧(x=bU∨x=.sl sz 0 [] .full∨x=.sl sz 0 [] .new))∨
    ∃o cap rest,x=.ig o 0 sz n cap∧s.aw o=some (cs++rest)∧cs.length=n*sz∧rest.length=(cap-n)*sz∧n≤cap∧cap<2^63
theorem pK:∀(ds cs rest:List AV),ds.length≤rest.length→bp (cs++rest) cs.length ds=cs++ds++rest.drop ds.length
  |[],cs,rest,_=>by simp[bp]
  |d::ds,cs,rest,h=>by
    cases rest with
    |nil=>simp at h
    |cons r rest=>
      simp only[bp];have e:(cs++r::rest).set cs.length d=(cs++[d])++rest:=(by simp);have:=pK ds (cs++[d]) rest (by simpa using h);rw[List.length_append,List.length_singleton] at this;rw[e,this];simp
theorem uR{x y:AV}{u v:Value}{m n:Nat}{cs ds:List AV}{T xT e:TypeId}{z:List AV}(hT:P.underlying T=some (.slice e))(hx:kR P (some xT)=true)(he:pt P e z)
    (eO:im (P.cellsOf e) s y=some (m,ds)) (hm:m≠0) (h1:(n+m)*P.bytesOf e≤2^46) (h2:n+m≤2^46) (kG:ds.all AV.one=true) (hb:ni (P.cellsOf e) s x n cs)
    (ph:av G x u) (wz:av G y v) (hs:aQ Γ G s w) (ty:TypeId):
    ∃G' r w' o cap rest,(Builtin.append_ #[T,xT] ty #[u,v]).run P w=.ok r w'∧G.le G'∧n+m≤cap∧cap<2^63∧rest.length=(cap-(n+m))*P.cellsOf e∧(s.aw o=none∨∃rR,x=.ig o 0 (P.cellsOf e) n rR)∧
      aQ Γ G' (s.set o (cs++ds++rest)) w'∧av G' (.ig o 0 (P.cellsOf e) (n+m) cap) r:=by
  obtain⟨us,hv,hlen,jf,fp⟩:=rG (P:=P) eO wz hs;have B7:=hv.length;have grow:∀(base:Option Addr)(cap:Nat)(vs:List Value),ar G cs vs→cap<n+m→
      (∀w',(∀b j,w'.cell? ⟨b,j,none⟩=w.cell? ⟨b,j,none⟩)→(Builtin.firstCells (P.cellsOf e) n (.slice base n cap)).run P w'=.ok vs.toArray w')→
      ∃G' r w' o kZ rest,(Builtin.append_ #[T,xT] ty #[.slice base n cap,v]).run P w=.ok r w'∧G.le G'∧n+m≤kZ∧kZ<2^63∧rest.length=(kZ-(n+m))*P.cellsOf e∧(s.aw o=none∨∃rR,x=.ig o 0 (P.cellsOf e) n rR)∧
        aQ Γ G' (s.set o (cs++ds++rest)) w'∧av G' (.ig o 0 (P.cellsOf e) (n+m) kZ) r:=by
    intro base cap vs FV bJ hold;obtain⟨kZ,rest,xc,hc3,zE,lH⟩:=uQ (P:=P) (w:=w) jf hT hx he (base:=base) (n:=n) (cap:=cap) (olds:=vs) (news:=us) hold fp bJ h1 h2 ty;obtain⟨o,k1,k2,k3,k4⟩:=hs.drew.newObj (cs:=(cs++ds)++rest.map .v) (vs:=(vs++us)++rest) ((FV.append hv).append (ar.DK rest)) e;refine⟨_,_,_,o,kZ,rest.map .v,lH,k2,xc,hc3,by simpa using zE,.inl k1,k3,?_⟩;simp only[av];exact⟨_,k4,rfl,xc⟩
  rcases hb with⟨rfl,rfl,rfl|rfl|rfl⟩|⟨o,cap,rest,rfl,ho,gw,uS,_,B6⟩
  · simp only[bU,av] at ph;subst ph;exact grow none 0 [] (by simp[ar]) (by omega) (fun w' _=>run_firstCells_none w' _ _ _ _)
  · simp only[av] at ph;rcases ph with⟨b,off,cap,vs,rfl,hl,_,Gg,qi,rE⟩|⟨_,_,a,cap,rfl,xB⟩|⟨_,_,h,_⟩
    · simp only[eC] at rE;subst rE;exact grow _ 0 [] (by simp[ar]) (by omega) (fun w' _=>run_firstCells_some w' _ _ _ _ _ [] (by simp) (by simp))
    · rcases xB with h|h|⟨_,rfl⟩
      · cases h
      · cases h
      · exact grow _ 0 [] (by simp[ar]) (by omega) (fun w' _=>run_firstCells_some w' _ _ _ _ _ [] (by simp) (by simp))
    · cases h
  · simp only[av] at ph;rcases ph with⟨b,off,cap,vs,rfl,hl,_,Gg,qi,rE⟩|⟨_,_,a,cap,rfl,xB⟩|⟨_,_,h,_⟩
    · simp only[eC] at rE;obtain⟨rfl,_⟩:=rE;exact grow _ 0 [] (by simp[ar]) (by omega) (fun w' _=>run_firstCells_some w' _ _ _ _ _ [] (by simp) (by simp))
    · rcases xB with h|h|⟨h,_⟩<;>cases h
    · cases h
  · have Oq:=ph;simp only[av] at ph;obtain⟨b,Ci,rfl,B3⟩:=ph;obtain⟨b',vs,q1,q2,q3,q4⟩:=hs.aw o _ ho;rw[Ci] at q1;cases q1;have QW:=q2.length;have FV:=q2.take cs.length;rw[List.take_left] at FV;have DS:=FV.length;rcases Nat.lt_or_ge cap (n+m) with bJ|cA
    · refine grow _ cap (vs.take cs.length) FV bJ (fun w' Su=>?_);refine run_firstCells_some w' _ _ _ _ _ _ (by omega) (fun j x hj=>?_);rw[cI,Su];rw[List.getElem?_take] at hj;split at hj
      · rw[Nat.zero_add];exact(q4 j x hj).1
      · cases hj
    · have OL:m*P.cellsOf e≤(cap-n)*P.cellsOf e:=Nat.mul_le_mul_right _ (by omega);have KA:cs.length+ds.length≤(cs++rest).length:=(by rw[List.length_append,uS,B7,hlen];omega);obtain⟨f1,f2,f3⟩:=lg hs ho Ci (off:=cs.length) KA hv;rw[pK ds cs rest (by rw[B7,hlen,uS];exact OL)] at f3;rw[gw] at f1 f2 f3;have lH:=qN (P:=P) (w:=w) (n:=n) (m:=m) (cap:=cap) (off:=0) (b:=b) jf hT hx he.2.1 (fp w (fun _ _=>rfl)) (by rw[Nat.zero_add];exact f1) (by rw[Nat.zero_add];exact f2) (lJ hv kG) cA ty;rw[Nat.zero_add] at lH;refine⟨G,_,_,o,cap,_,lH,.refl G,cA,B6,?_,.inr ⟨cap,rfl⟩,f3,?_⟩
      · rw[List.length_drop,uS,B7,hlen,←Nat.sub_mul,Nat.sub_sub]
      · simp only[av];exact⟨b,Ci,rfl,cA⟩
theorem iz{ρ:Operand→AV}{ρ':Operand→Value}{o:Oper}{x y:Operand}{m n:Nat}{cs ds:List AV}{T xT e:TypeId}{z:List AV}(ho:o.op=.call {callee:=.builtin .append,args:=#[x,y],argTypes:=#[T,xT]})
    (hT:P.underlying T=some (.slice e)) (hx:kR P (some xT)=true) (hz:bo P e=some z) (hc:P.cellsOf e≠0) (sQ:z.length=P.cellsOf e)
    (eO:im (P.cellsOf e) s (ρ y)=some (m,ds)) (hm:m≠0) (h1:(n+m)*P.bytesOf e≤2^46) (h2:n+m≤2^46) (kG:ds.all AV.one=true) (hb:ni (P.cellsOf e) s (ρ x) n cs)
    (hρ:∀x,av G (ρ x) (ρ' x)) (hs:aQ Γ G s w):
    dp P Γ G (fun r s'=>∃ob cap rest,r=.ig ob 0 (P.cellsOf e) (n+m) cap∧n+m≤cap∧cap<2^63∧rest.length=(cap-(n+m))*P.cellsOf e∧(s.aw ob=none∨∃rR,ρ x=.ig ob 0 (P.cellsOf e) n rR)∧s'=s.set ob (cs++ds++rest)) ((execOp ρ' o).run P w):=by
  obtain⟨G',r,w',ob,cap,rest,q1,q2,q3,q3',q4,q5,q6,q7⟩:=uR hT hx ⟨hz,hc,sQ⟩ eO hm h1 h2 kG hb (hρ x) (hρ y) hs o.type;rw[c7 ho];simp only[builtin];exact dE ⟨G',r,w',_,_,by simpa using q1,q2,q6,q7,ob,cap,rest,rfl,q3,q3',q4,q5,rfl⟩
end Go.AM
namespace Go.AM
open Go Go.RowKit
variable{rd:Option Nat}{P:Program}{Γ:Nat→List AV}{G:Gh}{s:AS}{w:World}{N:Nat}
def b8(Γ:Nat→List AV)(s:AS)(x:AV)(s':AS)(x':AV):Prop:=∀G w u,aQ Γ G s w→av G x u→∃G',G.le G'∧aQ Γ G' s' w∧av G' x' u
theorem b8.refl(x:AV):b8 Γ s x s x:=fun G _ _ hs hv=>⟨G,.refl G,hs,hv⟩
theorem b8.trans{s1 s2 s3:AS}{x y z:AV}(h:b8 Γ s1 x s2 y)(k:b8 Γ s2 y s3 z):b8 Γ s1 x s3 z:=by
  intro G w u hs hv;obtain⟨G1,h1,h2,h3⟩:=h G w u hs hv;obtain⟨G2,k1,k2,k3⟩:=k G1 w u h2 h3;exact⟨G2,h1.trans k1,k2,k3⟩
theorem b8.aE{x y:AV}(h:x.aE y):b8 Γ s x s y:=fun G _ _ hs hv=>⟨G,.refl G,hs,h _ _ hv⟩
theorem b8.le{s':AS}(x:AV)(h:s'.le s):b8 Γ s x s' x:=fun G _ _ hs hv=>⟨G,.refl G,hs.mono h,hv⟩
theorem aQ.Rb{o:Nat}{cs cs':List AV}(h:aQ Γ G s w)(ho:s.aw o=some cs)(hw:∀vs,ar G cs vs→ar G cs' vs):aQ Γ G (s.set o cs') w:=by
  refine⟨h.ro,?_,h.cX,h.inj,h.own,h.cJ,h.bR,h.cF,h.cb,h.below,h.others,h.base,h.gZ,h.soft⟩;intro o' ds hd;by_cases e:o'=o
  · subst e;rw[AS.af] at hd;cases hd;obtain⟨b,vs,h1,h2,h3,h4⟩:=h.aw o' cs ho;exact⟨b,vs,h1,hw vs h2,h3,h4⟩
  · rw[AS.ao _ e] at hd;exact h.aw o' ds hd
theorem b8.cells{O:Nat}{A B:List AV}{a b:AV}(x:AV)(hO:s.aw O=some (A++a::B))(hw:a.aE b):b8 Γ s x (s.set O (A++b::B)) x:=by
  intro G w u hs hv;refine⟨G,.refl G,hs.Rb hO (fun vs h=>?_),hv⟩;have hl:=h.length;have h1:=h.take A.length;have h2:=h.drop A.length;rw[List.take_left] at h1;rw[List.drop_left] at h2;generalize hd:vs.drop A.length=ds at h2;simp only[ar] at h2;obtain⟨u1,us,rfl,h3,h4⟩:=h2;rw[←List.take_append_drop A.length vs,hd];exact h1.append (by simp only[ar];exact⟨u1,us,rfl,hw _ _ h3,h4⟩)
theorem b8.inner{O o sz n cap:Nat}{A B cs rest:List AV}(x:AV)(hO:s.aw O=some (A++ .ig o 0 sz n cap::B))(ho:s.aw o=some (cs++rest))(cY:O≠o)(hl:cs.length=n*sz):
    b8 Γ s x ((s.drop o).set O (A++ .sl sz n cs .any::B)) x:=by
  intro G w u hs hv;obtain⟨b,vs,h1,h2,h3,h4,h5⟩:=hs.freeze ho;refine⟨_,h3,h5.Rb (cs:=A++ .ig o 0 sz n cap::B) (by rw[AS.qo,gQ _ _ cY];exact hO) (fun us h=>?_),av.mono h3 _ _ hv⟩;have k1:=h.take A.length;have k2:=h.drop A.length;rw[List.take_left] at k1;rw[List.drop_left] at k2;generalize hd:us.drop A.length=ds at k2;simp only[ar] at k2;obtain⟨u1,us1,rfl,k3,k4⟩:=k2;rw[←List.take_append_drop A.length us,hd];refine k1.append ?_;simp only[ar];refine⟨u1,us1,rfl,?_,k4⟩;simp only[av] at k3⊢;obtain⟨b',q1,q2,q3⟩:=k3;rw[h3.obj _ _ h1] at q1;cases q1;have q5:=h2.take cs.length;rw[List.take_left] at q5;refine .inl ⟨b,0,cap,_,q2,hl,q3,ar.mono h3 _ _ q5,?_,trivial⟩;intro j y hj;rw[List.getElem?_take] at hj;split at hj
  · exact h4 j y hj
  · cases hj
theorem b8.outer{o sz n cap:Nat}{cs rest:List AV}(ho:s.aw o=some (cs++rest))(hl:cs.length=n*sz):b8 Γ s (.ig o 0 sz n cap) (s.drop o) (.sl sz n cs .any):=by
  intro G w u hs hv;obtain⟨b,vs,h1,h2,h3,h4,h5⟩:=hs.freeze ho;refine⟨_,h3,h5,?_⟩;simp only[av] at hv⊢;obtain⟨b',q1,q2,q3⟩:=hv;rw[h1] at q1;cases q1;have q5:=h2.take cs.length;rw[List.take_left] at q5;refine .inl ⟨b,0,cap,_,q2,hl,q3,ar.mono h3 _ _ q5,?_,trivial⟩;intro j y hj;rw[List.getElem?_take] at hj;split at hj
  · exact h4 j y hj
  · cases hj
theorem aj.settle{f:FuncId}{args:List AV}{Q R:AV→AS→Prop}(h:aj P Γ f args s Q)(k:∀r s1,Q r s1→∃s2 r2,b8 Γ s1 r s2 r2∧R r2 s2):aj P Γ f args s R:=by
  intro G w vs hs ha;refine(h G w vs hs ha).mono ?_;rintro e w' ⟨G',r,v,s',rfl,h1,h2,h3,h4⟩;obtain⟨s2,r2,k1,k2⟩:=k r s' h4;obtain⟨G2,q1,q2,q3⟩:=k1 G' w' v h2 h3;exact⟨G2,r2,v,s2,rfl,h1.trans q1,q2,q3,k2⟩
theorem eE.settle{E:Env}{d:Nat}{x x':AV}{s':AS}(hE:E d=x)(h:b8 Γ s x s' x'):eE Γ N E s (aB E d x') s':=by
  intro G a w hr;have hd:=hr.tmps d;rw[hE] at hd;obtain⟨G',h1,h2,h3⟩:=h G w _ hr.st hd;refine⟨G',h1,h2,hr.size,fun i=>?_,hr.defers.trans h1.df.symm⟩;simp only[aB];split
  · rename_i e;subst e;exact h3
  · exact av.mono h1 _ _ (hr.tmps i)
theorem Ew{E:Env}{Q:Exit→Env→AS→Prop}{id:Nat}{L2:List Oper}{o1 o2 o:Oper}{code:Code}(hg:o.guard=none)(hd:∀d,o.dst=some d→d<N)
    (h:∀ops,AY P Γ N ops [o1,o2] (fun E1 s1=>∃K1:AV→AS→Prop,(∀G a w,Rel Γ N G E1 s1 a w→dp P Γ G K1 ((execOp a.eval o).run P w))∧
      ∀r s2,K1 r s2→AY P Γ N ops L2 (fun E' s'=>ct P Γ N code Q E' s') (bw E1 o.dst r) s2) E s):
    ct P Γ N (.seq (.region id (o1::o2::o::L2).toArray false) code) Q E s:=
  pG [o1,o2] L2 hg hd (h _)
theorem pL{E:Env}{Q:Exit→Env→AS→Prop}{id:Nat}(L1 L2:List Oper){o:Oper}(hg:o.guard=none)(hd:∀d,o.dst=some d→d<N)
    (h:AY P Γ N (L1++o::L2).toArray L1 (fun E1 s1=>∃K1:AV→AS→Prop,(∀G a w,Rel Γ N G E1 s1 a w→dp P Γ G K1 ((execOp a.eval o).run P w))∧
      ∀r s2,K1 r s2→AY P Γ N (L1++o::L2).toArray L2 (fun E' s'=>Q .normal E' s') (bw E1 o.dst r) s2) E s):
    ct P Γ N (.region id (L1++o::L2).toArray false) Q E s:=by
  rw[ay] at h;intro G a w hr;refine wpIn_region ?_;have bS:∀ops:Array Oper,(List.range ops.size).map (ops[·]?)=ops.toList.map some:=by
    intro ops;apply List.ext_getElem?;intro i;simp only[List.getElem?_map];by_cases hi:i<ops.size
    · simp[hi]
    · simp[hi]
  have pH:=bS (L1++o::L2).toArray;generalize hI:List.range (L1++o::L2).toArray.size=I at pH;have h1:(I.take L1.length).map ((L1++o::L2).toArray[·]?)=L1.map some:=by
    rw[List.map_take,pH];simp
  have h2:(I.drop L1.length).map ((L1++o::L2).toArray[·]?)=(o::L2).map some:=by
    rw[List.map_drop,pH];simp
  rw[←List.take_append_drop L1.length I];generalize I.take L1.length=I1 at h1;generalize I.drop L1.length=I2 at h2;cases I2 with
  |nil=>simp at h2
  |cons i I2=>
    simp only[List.map_cons,List.cons.injEq] at h2;refine dX L1 I1 (i::I2) h1 (dI _ h) hr ?_;rintro G1 E1 s1 a1 w1 gy qZ ⟨⟨K1,ib,hk⟩,Cj⟩;rw[wpOpsIn_cons];simp only[wpOpIn,h2.1];rw[if_pos (eb hg)];refine(Oper.ng qZ hd (ib G1 a1 w1 qZ) ?_);intro G3 r s3 a3 w3 Q6 re hK;refine lK L2 I2 h2.2 (dI _ (hk r s3 hK)) re ?_;rintro G4 E4 s4 a4 w4 Vq Dx ⟨SI,KV⟩;refine⟨G4,E4,s4,gy.trans (Q6.trans Vq),Dx,SI,?_⟩;intro i hi;have mem:∀L:List Oper,i∈cC L↔∃o∈L,o.dst=some i:=(fun L=>by simp[cC,List.mem_filterMap]);have aY:¬∃o'∈L1++o::L2,o'.dst=some i:=fun hm=>hi ((mem _).2 hm);have m1:i∉cC L1:=fun hm=>aY (by obtain⟨o,k1,k2⟩:=(mem _).1 hm;exact⟨o,by simp[k1],k2⟩);have m2:i∉cC L2:=fun hm=>aY (by obtain⟨o,k1,k2⟩:=(mem _).1 hm;exact⟨o,by simp[k1],k2⟩);have m3:o.dst≠some i:=fun e=>aY ⟨o,by simp,e⟩;rw[KV i m2,cG m3,Cj i m1]
theorem yh{E:Env}{Q:Exit→Env→AS→Prop}{id:Nat}{L2:List Oper}{o1 o2 o3 o4 o:Oper}(hg:o.guard=none)(hd:∀d,o.dst=some d→d<N)
    (h:∀ops,AY P Γ N ops [o1,o2,o3,o4] (fun E1 s1=>∃K1:AV→AS→Prop,(∀G a w,Rel Γ N G E1 s1 a w→dp P Γ G K1 ((execOp a.eval o).run P w))∧
      ∀r s2,K1 r s2→AY P Γ N ops L2 (fun E' s'=>Q .normal E' s') (bw E1 o.dst r) s2) E s):
    ct P Γ N (.region id (o1::o2::o3::o4::o::L2).toArray false) Q E s:=
  pL [o1,o2,o3,o4] L2 hg hd (h _)
end Go.AM
namespace Go.AM
open Go Go.RowKit
variable{P:Program}{Γ:Nat→List AV}{N:Nat}{x y:List AV}
end Go.AM
namespace Go.AM
open Go Go.RowKit
variable{P:Program}{Γ:Nat→List AV}{G:Gh}{s:AS}{w:World}{N:Nat}{E:Env}
def zW(E:Env):List Tmp→List AV→Env
  |p::ps,x::xs=>zW (aB E p x) ps xs
  |_,_=>E
theorem Bh{G:Gh}:∀(ps:List Tmp)(xs:List AV)(us:List Value)(E:Env)(t:Array Value),ar G xs us→t.size=N→(∀p∈ps,p<N)→(∀i,av G (E i) (t.getD i undef))→
    ((ps.zip us).foldl (fun t(pv:Tmp×Value)=>t.setIfInBounds pv.1 pv.2) t).size=N∧∀i,av G (zW E ps xs i) (((ps.zip us).foldl (fun t(pv:Tmp×Value)=>t.setIfInBounds pv.1 pv.2) t).getD i undef)
  |[],xs,us,E,t,hv,hs,hp,h=>by simp only[zW,List.zip_nil_left,List.foldl_nil];exact⟨hs,h⟩
  |p::ps,[],us,E,t,hv,hs,hp,h=>by simp only[ar] at hv;subst hv;simp only[zW,List.zip_nil_right,List.foldl_nil];exact⟨hs,h⟩
  |p::ps,x::xs,us,E,t,hv,hs,hp,h=>by
    simp only[ar] at hv;obtain⟨u,wu,rfl,h1,h2⟩:=hv;simp only[List.zip_cons_cons,List.foldl_cons,zW];refine Bh ps xs wu (aB E p x) (t.setIfInBounds p u) h2 (by simpa using hs) (fun q hq=>hp q (by simp[hq])) fun i=>?_;simp only[aB];split
    · rename_i e;subst e;have :i<t.size:=(by rw[hs];exact hp i (by simp));simpa[Array.getD,this] using h1
    · rename_i e;have:=h i;simp only[Array.getD_eq_getD_getElem?] at this⊢;rw[Array.getElem?_setIfInBounds_ne (by omega)];exact this
def vT(P:Program)(Γ:Nat→List AV)(gf:FuncId)(cg:List AV)(xs:List (List AV)):Prop:=
  ∀(I:Nat→AS→Prop)(l:Nat)(s:AS)(G:Gh)(W:World)(lb:List Value),G.df=[]→ar G cg lb→I 0 s→aQ Γ G s W→
    (∀i x s1 G1 us W1,xs[i]? =some x→I i s1→G.le G1→aQ Γ G1 s1 W1→ar G1 x us→YieldAt Fence.wide 0 P l us.toArray W1 fun e W'=>e=.returned (.bool true)∧∃G2 s2,G1.le G2∧aQ Γ G2 s2 W'∧I (i+1) s2)→
    CallsIn Fence.wide 0 P gf (#[.func (.yield l) #[] #[]]++lb.toArray) W fun e W'=>(∃v,e=.returned v)∧∃G2 s2,G.le G2∧aQ Γ G2 s2 W'∧I xs.length s2
theorem Cp{a:Act}{g:Operand}{ps:List Tmp}{assign body:Code}{gf:FuncId}{cg:List AV}{xs:List (List AV)}(hr:Rel Γ N G E s a w)(uK:G.df=[])(hg:aN Γ E g=.qE gf cg)(H3:ai P gf=true)(Kk:vT P Γ gf cg xs)
    (hp:∀p∈ps,p<N) (NW:∀x∈xs,x.length=ps.length) (I:Nat→AS→Prop) (h0:I 0 s)
    (SY:∀(i:Nat)(x:List AV)(s1:AS),xs[i]? =some x→I i s1→ct P Γ N assign (fun e E2 s2=>e=.normal∧ct P Γ N body (fun e E3 s3=>e=.normal∧I (i+1) s3) E2 s2) (zW E ps x) s1):
    (Code.rangeFunc g ps.toArray assign body).wpIn Fence.wide 0 P (fun e a' w'=>e=.normal∧∃D G' s',G.le G'∧w.heap.size≤D∧w'.heap[D]? =some (.deferred (some []))∧
      a'= {a with defers:={target:=.collected D,args:=#[]}::a.defers}∧aQ Γ G' s' w'∧I xs.length s') a w:=by
  have SJ:=hr.eval g;rw[hg] at SJ;simp only[av] at SJ;obtain⟨lb,hg',SK⟩:=SJ;have KB:G.w0.heap.size≤w.heap.size:=hr.st.below.size;have hBw:G.B≤w.heap.size:=hr.st.base;refine wpIn_rangeFunc ?_;intro fn Vs;obtain⟨rec,pI⟩:∃rec:LoopState→Option Code→Loop,rec=fun st pe=>{state:=st,pending:=pe,fn,tmps:=a.tmps,params:=ps.toArray,assign,body,defers:=w.heap.size}:=⟨_,rfl⟩;obtain⟨W1,OH⟩:∃W1,(w.alloc (.deferred (some []))).alloc (.loop (rec .ready none))=W1:=⟨_,rfl⟩;have SN:W1.heap[w.heap.size+1]? =some (.loop (rec .ready none)):=by
    rw[←OH];have:=World.alloc_heap_new (w.alloc (.deferred (some []))) (.loop (rec .ready none));rwa [World.size_alloc] at this
  have fQ:W1.heap[w.heap.size]? =some (.deferred (some [])):=by
    rw[←OH];exact(Below.heap_alloc _ _ _ (by simp)).trans (World.alloc_heap_new w _)
  have gV:aQ Γ G s W1:=by
    rw[←OH];exact(hr.st.alloc _ (by intro c T lo hi e;cases e)).alloc _ (by intro c T lo hi e;cases e)
  refine⟨w.heap.size+1,[{target:=.collected w.heap.size,args:=#[]}],W1,{target:=.fn (.func gf) lb.toArray,args:=#[.func (.yield (w.heap.size+1)) #[] #[]]},W1,gf,
    #[.func (.yield (w.heap.size+1)) #[] #[]]++lb.toArray,W1,?_,?_,?_,?_,(fun e=>by cases e),?_⟩
  · rw[←OH,pI];exact run_enterLoop_outer _ _ _ _ _
  · simp only[resolve,hg'];simp[go_sem]
  · intro f' _;trivial
  · have:=nN (w:=W1) H3 (#[.func (.yield (w.heap.size+1)) #[] #[]]++lb.toArray);simpa[invoke,go_sem] using this
  · have hsW:aQ Γ (G.setW W1) s W1:=gV.setW;refine(Kk I (w.heap.size+1) s (G.setW W1) W1 lb uK (ar.sub (G.gA W1) _ _ SK) h0 hsW ?_).mono ?_
    · rintro i x s1 G1 us W hx hI hle h2 hu;have H4:G1.w0=W1:=hle.w0;have SP:G1.B=G.B:=hle.B;have Jq:dn W1 W:=(by have:=h2.others;rwa [H4] at this);have hl:=Jq _ _ SN (by intros;simp);have hk:=Jq _ _ fQ (by intros;simp);have hbW:Below G.B W1 W:=(by have:=h2.below;rwa [H4,SP] at this);obtain⟨q1,q2⟩:=gV.sK hle h2;have bJ:w.heap.size+1<W.heap.size:=(Array.getElem?_eq_some_iff.1 hl).1;have hy:=run_yield (P:=P) (args:=us.toArray) hl (by rw[pI];simp[←hu.length,NW x (List.mem_of_getElem? hx)]);rw[pI] at hy;refine⟨fn,_,assign,body,hy,roundIn_of_wpIn Vs ?_⟩;have e3:((ps.toArray).zip us.toArray).foldl (fun t(p,v)=>t.setIfInBounds p v) a.tmps=(ps.zip us).foldl (fun t(pv:Tmp×Value)=>t.setIfInBounds pv.1 pv.2) a.tmps:=(by simp);have KW:Rel Γ N ((G1.setW G.w0).setW W) (zW E ps x) s1 {tmps:=((ps.toArray).zip us.toArray).foldl (fun t(p,v)=>t.setIfInBounds p v) a.tmps,defers:=[]} W:=by
        rw[e3];have htm:=Bh (G:=(G1.setW G.w0).setW W) ps x us E a.tmps (ar.sub (G:=G1.setW G.w0) (Gh.gA _ _) _ _ (ar.sub (G1.gA G.w0) _ _ hu)) hr.size hp fun k=>av.sub (G:=G1.setW G.w0) (Gh.gA _ _) _ _ (av.mono q2 _ _ (hr.tmps k));exact⟨q1.setW,htm.1,htm.2,by rw[show((G1.setW G.w0).setW W).df=G1.df from rfl,hle.df];exact uK.symm⟩
      refine wpIn_mono (SY i x s1 hx hI _ _ W KW (rd:=some (w.heap.size+1))) ?_;rintro e a1 Wa ⟨Ga,E2,s2,zU,Jr,⟨rfl,UJ⟩,-⟩;have SQ:dn W Wa:=by
        have:=Jr.st.others;rwa [show Ga.w0=W from zU.w0] at this
      have Q8:Below G.B W Wa:=by
        have:=Jr.st.below;rwa [show Ga.w0=W from zU.w0,show Ga.B=G.B from zU.B.trans SP] at this
      have SR:=SQ _ _ hl (by intros;simp);have xbZ:=SQ _ _ hk (by intros;simp);obtain⟨gb1,gb2⟩:=q1.sK zU Jr.st;refine⟨_,run_beginRound SR (by rw[pI]),?_⟩;have KX:w.heap.size+1<Wa.heap.size:=(Array.getElem?_eq_some_iff.1 SR).1;obtain⟨W2,KY⟩:∃W2,Wa.putObj (w.heap.size+1) (.loop {rec .ready none with state:=.busy})=W2:=⟨_,rfl⟩;have DS:W2.heap[w.heap.size+1]? =some (.loop {rec .ready none with state:=.busy}):=(by rw[←KY];exact World.putObj_heap_same KX);have UG:Ga.B=G.B:=zU.B.trans SP;have nU:aQ Γ (Ga.setW G.w0) s2 W2:=by
        rw[←KY];exact gb1.putObj SR (by intros;simp) (by intros;simp) (by show G.w0.heap.size≤_;omega) (by show Ga.B≤_;omega)
      rw[KY];have xI:Rel Γ N ((Ga.setW G.w0).setW W2) E2 s2 a1 W2:=
        ⟨nU.setW,Jr.size,fun k=>av.sub (G:=Ga) (G':=(Ga.setW G.w0).setW W2) ⟨rfl,rfl,rfl,rfl⟩ _ _ (Jr.tmps k),Jr.defers⟩
      refine wpIn_mono (UJ _ _ W2 xI (rd:=some (w.heap.size+1))) ?_;rintro e a3 W3 ⟨G2,E3,s3,g1,⟨g2,-,-,-⟩,⟨rfl,hI3⟩,-⟩;have Q9:G2.w0=W2:=g1.w0;have Vt:G2.B=G.B:=g1.B.trans UG;have Kh:dn W2 W3:=by
        have:=g2.others;rwa [Q9] at this
      have UH:Below G.B W2 W3:=by
        have:=g2.below;rwa [Q9,Vt] at this
      have Jb:=Kh _ _ DS (by intros;simp);obtain⟨g3,g4⟩:=nU.sK g1 g2;have re:(Instr.endRound (w.heap.size+1) none).run P W3=.ok (.bool true) (W3.putObj (w.heap.size+1) (.loop (rec .ready none))):=by
        have:=run_endRound (P:=P) none Jb;rw[pI] at this⊢;exact this
      have uL:w.heap.size+1<W3.heap.size:=(Array.getElem?_eq_some_iff.1 Jb).1;have NX:=g3.putObj (o':=.loop (rec .ready none)) Jb (by intros;simp) (by intros;simp) (by show G.w0.heap.size≤_;omega) (by show G2.B≤_;omega);have Vu:∀(V:World)(o:Obj),w.heap.size+1<V.heap.size→Below G.B V (V.putObj (w.heap.size+1) o):=fun V o hV=>
        (Below.refl _ _).grown (row:=some (w.heap.size+1)) ⟨rfl,rfl,rfl,by simp[World.putObj],fun i _ hi=>World.putObj_heap_other (fun e=>hi (by rw[e]))⟩ (by omega) (fun i e=>by cases e;omega)
      refine⟨_,_,re,rfl,G2.setW W1,s3,?_,?_,hI3⟩
      · exact⟨fun b j v hv=>g1.ro b j v (zU.ro b j v hv),fun o b hb=>g1.obj o b (zU.obj o b hb),fun t e r ht=>g1.tok t e r (zU.tok t e r ht),g1.B.trans zU.B,H4.symm,g1.df.trans zU.df⟩
      · refine NX.sub (G:=G2.setW G.w0) (G':=G2.setW W1) ⟨rfl,rfl,rfl,rfl⟩ rfl rfl ?_ ?_
        · show Below G2.B W1 _;rw[Vt];refine(hbW.trans Q8).trans (Below.trans ?_ (UH.trans (Vu _ _ uL)));rw[←KY];exact Vu _ _ KX
        · intro k o KZ vz;replace KZ:W1.heap[k]? =some o:=KZ;by_cases e:k=w.heap.size+1
          · subst e;rw[SN] at KZ;cases KZ;exact World.putObj_heap_same uL
          · rw[World.putObj_heap_other e];refine Kh k o ?_ vz;rw[←KY,World.putObj_heap_other e];exact SQ k o (Jq k o KZ vz) vz
    · rintro e W2 ⟨⟨v,rfl⟩,G2,s2,h1,h2,Vy⟩;have H4:G2.w0=W1:=h1.w0;have Jq:dn W1 W2:=(by have:=h2.others;rwa [H4] at this);have hl:=Jq _ _ SN (by intros;simp);have hk:=Jq _ _ fQ (by intros;simp);obtain⟨q1,q2⟩:=gV.sK h1 h2;refine⟨none,_,by have:=run_endLoop (P:=P) hl (by rw[pI];simp);rw[pI] at this;exact this,rfl,w.heap.size,G2.setW G.w0,s2,q2,Nat.le_refl _,(World.putObj_heap_other (by omega)).trans hk,rfl,?_,Vy⟩;rw[pI] at hl;exact q1.putObj hl (by intros;simp) (by intros;simp) (by show G.w0.heap.size≤_;omega) (by rw[show(G2.setW G.w0).B=G2.B from rfl,h1.B];show G.B≤_;omega)
def Gz(P:Program)(Γ:Nat→List AV)(N:Nat)(rs:List ResultVar)(ca:AV→AS→Prop)(c:Code)(E:Env)(s:AS):Prop:=
  ∀(G:Gh)(a:Act)(w:World),G.df=[]→Rel Γ N G E s a w→c.wpIn Fence.wide 0 P (fun e a' w'=>(e=.normal∨e=.ret)∧∃D G' E' s',G.le G'∧(G.w0.heap.size≤D∧G.B≤D)∧w'.heap[D]? =some (.deferred (some []))∧
      a'.defers=[{target:=.collected D,args:=#[]}]∧Rel Γ N (G'.cO a'.defers) E' s' a' w'∧bz P rs ca E' s') a w
theorem yi{f:FuncId}{fn:Func}{c:Code}{args:List AV}{ca:AV→AS→Prop}{s:AS}(hf:P.funcs[f]? =some fn)(hb:fn.body=some c){n:Nat}(hN:fn.ntmps=n){rs:Array ResultVar}(Jm:fn.results=rs)(hn:args.length≤n)
    (h:Gz P Γ n rs.toList ca c (bx args) s):aj P Γ f args s ca:=by
  subst hN;subst Jm;exact oF hf hb hn h
variable{rs:List ResultVar}{ca:AV→AS→Prop}
theorem OM{x y:Code}(h:ct P Γ N x (fun e E' s'=>e=.normal∧Gz P Γ N rs ca y E' s') E s):Gz P Γ N rs ca (.seq x y) E s:=by
  intro G a w uK hr;refine wpIn_seq (wpIn_mono (F:=uD none) (n:=0) (h G a w hr) ?_);rintro e a1 w1 ⟨G1,E1,s1,g1,g2,⟨rfl,k⟩,-⟩;refine wpIn_mono (k G1 a1 w1 (g1.df.trans uK) g2) ?_;rintro e a' w' ⟨he,D,G',E',s',h1,h2,h3⟩;exact⟨he,D,G',E',s',g1.trans h1,by rw[←g1.w0,←g1.B];exact h2,h3⟩
theorem qv{id:Nat}{L:List Oper}{y:Code}(h:∀K:Env→AS→Prop,(∀E s,Gz P Γ N rs ca y E s→K E s)→AY P Γ N L.toArray L K E s):Gz P Γ N rs ca (.seq (.region id L.toArray false) y) E s:=by
  refine OM (nP ?_);have:=h (fun E s=>Exit.normal=.normal∧Gz P Γ N rs ca y E s) fun E s k=>⟨rfl,k⟩;rw[ay] at this;simpa using this
def GA(P:Program)(Γ:Nat→List AV)(N:Nat)(rs:List ResultVar)(ca:AV→AS→Prop)(g:Operand)(ps:List Tmp)(assign body rest:Code)(E:Env)(s:AS):Prop:=
  ∃(gf:FuncId)(cg:List AV)(xs:List (List AV))(I:Nat→AS→Prop),aN Γ E g=.qE gf cg∧ai P gf=true∧vT P Γ gf cg xs∧(∀x∈xs,x.length=ps.length)∧I 0 s∧
    (∀(i:Nat)(x:List AV)(s1:AS),xs[i]? =some x→I i s1→ct P Γ N assign (fun e E2 s2=>e=.normal∧ct P Γ N body (fun e E3 s3=>e=.normal∧I (i+1) s3) E2 s2) (zW E ps x) s1)∧
    ∀s2,I xs.length s2→ct P Γ N rest (ck P rs ca) E s2
theorem Ju{b:Nat}{x:Code}{g:Operand}{ps:List Tmp}{assign body rest:Code}(hp:∀p∈ps,p<N)
    (h:ct P Γ N x (fun e E' s'=>e=.normal∧GA P Γ N rs ca g ps assign body rest E' s') E s):Gz P Γ N rs ca (.seq (.seq x (.block b (.rangeFunc g ps.toArray assign body))) rest) E s:=by
  intro G a w uK hr;refine wpIn_seq (wpIn_seq (wpIn_mono (F:=uD none) (n:=0) (h G a w hr) ?_));rintro e a1 w1 ⟨G1,E1,s1,g1,g2,⟨rfl,gf,cg,xs,I,q1,q2,q3,q4,q5,q6,q7⟩,-⟩;have VD:G1.df=[]:=g1.df.trans uK;refine wpIn_block (wpIn_mono (Cp g2 VD q1 q2 q3 hp q4 I q5 q6) ?_);rintro e a2 w2 ⟨rfl,D,G2,s2,h1,hD,hk,rfl,hs,hI⟩;have fa:=g2.st.below.size;have Gi:=g2.st.base;refine ct.behind g2 h1 hk hs VD (q7 s2 hI) ?_;intro e G3 E3 s3 a3 w3 j1 j2 j3 j4 j5;have hf:bz P rs ca E3 s3∧(e=.normal∨e=.ret):=by
    cases e<;>simp only[ck] at j5
    · exact⟨j5,.inl rfl⟩
    · exact⟨j5,.inr rfl⟩
  exact⟨hf.2,D,G3,E3,s3,g1.trans j1,⟨by rw[←g1.w0];omega,by rw[←g1.B];omega⟩,j2,j3,j4,hf.1⟩
theorem rh{id b:Nat}{L:List Oper}{g:Operand}{ps:List Tmp}{assign body rest:Code}(hp:∀p∈ps,p<N)
    (h:∀K:Env→AS→Prop,(∀E s,GA P Γ N rs ca g ps assign body rest E s→K E s)→AY P Γ N L.toArray L K E s):Gz P Γ N rs ca (.seq (.seq (.region id L.toArray false) (.block b (.rangeFunc g ps.toArray assign body))) rest) E s:=by
  refine Ju hp (nP ?_);have:=h (fun E s=>Exit.normal=.normal∧GA P Γ N rs ca g ps assign body rest E s) fun E s k=>⟨rfl,k⟩;rw[ay] at this;simpa using this
end Go.AM
namespace Go.AM
open Go Go.RowKit
variable{P:Program}{Γ:Nat→List AV}{G:Gh}{s:AS}{w:World}{N:Nat}{E:Env}
theorem oH{Q:Exit→Env→AS→Prop}{id:Nat}{L2:List Oper}{o1 o2 o3 o:Oper}(hg:o.guard=none)(hd:∀d,o.dst=some d→d<N)
    (h:∀ops,AY P Γ N ops [o1,o2,o3] (fun E1 s1=>∃K1:AV→AS→Prop,(∀G a w,Rel Γ N G E1 s1 a w→dp P Γ G K1 ((execOp a.eval o).run P w))∧
      ∀r s2,K1 r s2→AY P Γ N ops L2 (fun E' s'=>Q .normal E' s') (bw E1 o.dst r) s2) E s):
    ct P Γ N (.region id (o1::o2::o3::o::L2).toArray false) Q E s:=
  pL [o1,o2,o3] L2 hg hd (h _)
def YA(P:Program)(Γ:Nat→List AV)(G0:Gh)(l:Nat)(x:List AV)(s1:AS)(ca:AS→Prop):Prop:=
  ∀(G1:Gh)(us:List Value)(W1:World),G0.le G1→aQ Γ G1 s1 W1→ar G1 x us→YieldAt Fence.wide 0 P l us.toArray W1 fun e W'=>e=.returned (.bool true)∧∃G2 s2,G1.le G2∧aQ Γ G2 s2 W'∧ca s2
def H6(P:Program)(Γ:Nat→List AV)(N:Nat)(G0:Gh)(c:Code)(Q:Exit→Env→AS→Prop)(E:Env)(s:AS):Prop:=
  ∀(G:Gh)(a:Act)(w:World),G0.le G→Rel Γ N G E s a w→
    c.wpIn Fence.wide 0 P (fun e a' w'=>∃G' E' s',G.le G'∧Rel Γ N G' E' s' a' w'∧Q e E' s'∧∀i,i∉writes c→E' i=E i) a w
variable{G0:Gh}{Q:Exit→Env→AS→Prop}
theorem ct.y{c:Code}(h:ct P Γ N c Q E s):H6 P Γ N G0 c Q E s:=fun G a w _ hr=>h G a w hr (rd:=none)
theorem eR{x y:Code}(h:H6 P Γ N G0 x (aA (H6 P Γ N G0 y Q) Q) E s):H6 P Γ N G0 (.seq x y) Q E s:=by
  intro G a w hG hr;refine wpIn_seq (wpIn_mono (h G a w hG hr) ?_);rintro e a' w' ⟨G',E',s',h1,h2,h3,h4⟩;have hw:∀i,i∉writes (.seq x y)→E' i=E i:=fun i hi=>h4 i (fun hm=>hi (by simp[writes,hm]));cases e<;>simp only[Exit.then,aA] at h3⊢;case normal=>
    refine wpIn_mono (h3 G' a' w' (hG.trans h1) h2) ?_;rintro e zJ wA ⟨vF,ji,ic,k1,k2,k3,k4⟩;exact⟨vF,ji,ic,h1.trans k1,k2,k3,fun i hi=>by rw[k4 i (fun hm=>hi (by simp[writes,hm])),hw i hi]⟩
  all_goals exact⟨G',E',s',h1,h2,h3,hw⟩
theorem qw{id:Nat}{c:Code}(h:H6 P Γ N G0 c (aq id Q) E s):H6 P Γ N G0 (.block id c) Q E s:=by
  intro G a w hG hr;refine wpIn_block (wpIn_mono (h G a w hG hr) ?_);rintro e a' w' ⟨G',E',s',h1,h2,h3,h4⟩;cases e<;>simp only[Exit.inBlock,aq] at h3⊢;case exit id'=>
    split at h3
    · rename_i Sy;rw[if_pos Sy];exact⟨G',E',s',h1,h2,h3,h4⟩
    · rename_i Sy;rw[if_neg Sy];exact⟨G',E',s',h1,h2,h3,h4⟩
  all_goals exact⟨G',E',s',h1,h2,h3,h4⟩
theorem Ex{c:Code}(I:Env→AS→Prop)(μ:Env→AS→Nat)(h0:I E s)
    (round:∀E' s',I E' s'→(∀i,i∉writes c→E' i=E i)→H6 P Γ N G0 c (aA (fun ji ic=>I ji ic∧μ ji ic<μ E' s') Q) E' s'):H6 P Γ N G0 (.loop c) Q E s:=by
  intro G a w hG hr;let Φ:Act→World→Gh→Env→AS→Prop:=fun a w G' E' s'=>G.le G'∧Rel Γ N G' E' s' a w∧I E' s'∧∀i,i∉writes c→E' i=E i;let C:Act→World→Nat→Prop:=fun a w n=>∃G' E' s',Φ a w G' E' s'∧μ E' s'=n;open Classical in
  let ν:Act→World→Nat:=fun a w=>if h:∃n,C a w n then Classical.choose (exists_least _ h) else 0
  refine wpIn_loop (fun a w=>∃n,C a w n) ν ⟨_,G,E,s,⟨.refl G,hr,h0,fun _ _=>rfl⟩,rfl⟩ ?_;intro a1 w1 hI;have hν:ν a1 w1=Classical.choose (exists_least _ hI):=(by simp only[ν];rw[dif_pos hI]);obtain⟨G1,E1,s1,⟨g1,g2,g3,g4⟩,g5⟩:=(Classical.choose_spec (exists_least _ hI)).1;refine wpIn_mono (round E1 s1 g3 g4 G1 a1 w1 (hG.trans g1) g2) ?_;rintro e a' w' ⟨G',E',s',h1,h2,h3,h4⟩;have hw:∀i,i∉writes c→E' i=E i:=(fun i hi=>by rw[h4 i hi,g4 i hi]);cases e<;>simp only[Exit.then,aA] at h3⊢;case normal=>
    have hC:∃n,C a' w' n:=⟨_,G',E',s',⟨g1.trans h1,h2,h3.1,hw⟩,rfl⟩;refine⟨hC,?_⟩;have :ν a' w'=Classical.choose (exists_least _ hC):=(by simp only[ν];rw[dif_pos hC]);rw[this,hν,←g5];exact Nat.lt_of_le_of_lt ((Classical.choose_spec (exists_least _ hC)).2 _ ⟨G',E',s',⟨g1.trans h1,h2,h3.1,hw⟩,rfl⟩) h3.2
  all_goals exact⟨G',E',s',g1.trans h1,h2,h3,hw⟩
theorem zX{ρ:Operand→Value}{o:Oper}{f:Operand}{xs:List Operand}{ts:Array TypeId}{l:Nat}(ho:o.op=.call {callee:=.value f,args:=xs.toArray,argTypes:=ts})(hf:ρ f=.func (.yield l) #[] #[]):
    (execOp ρ o).run P w=(Instr.yield l (xs.map ρ).toArray).run P w:=by
  obtain⟨dst,op,type,pos,after,guard⟩:=o;simp only at ho;subst ho;simp[execOp,resolve,hf,Deferred.ofValue,invoke]
theorem yj{G:Gh}{E:Env}{a:Act}{w:World}(hr:Rel Γ N G E s a w):∀xs:List Operand,ar G (xs.map (aN Γ E)) (xs.map a.eval)
  |[]=>by simp[ar]
  |x::xs=>by simp only[List.map_cons,ar];exact⟨_,_,rfl,hr.eval x,yj hr xs⟩
theorem Bi{l id:Nat}(L1 L2:List Oper){o:Oper}{f:Operand}{xs:List Operand}{ts:Array TypeId}
    (ho:o.op=.call {callee:=.value f,args:=xs.toArray,argTypes:=ts}) (hg:o.guard=none) (hd:∀d,o.dst=some d→d<N)
    (h1:AY P Γ N (L1++o::L2).toArray L1 (fun E1 s1=>aN Γ E1 f=.v (.func (.yield l) #[] #[])∧∃ca,YA P Γ G0 l (xs.map (aN Γ E1)) s1 ca∧
      ∀s2,ca s2→AY P Γ N (L1++o::L2).toArray L2 (fun E' s'=>Q .normal E' s') (bw E1 o.dst (.v (.bool true))) s2) E s):H6 P Γ N G0 (.region id (L1++o::L2).toArray false) Q E s:=by
  intro G a w hG hr;rw[ay] at h1;refine wpIn_region ?_;have pH:=Bd (L1++o::L2).toArray;generalize List.range (L1++o::L2).toArray.size=I at pH⊢;obtain⟨I1,i,I2,rfl,m1,mo,m2⟩:=Be (A:=L1) (B:=L2) (o:=o) pH;refine iv (l:=none) L1 I1 (i::I2) m1 (dI _ h1) hr ?_;rintro G1 E1 s1 a1 w1 gy qZ ⟨⟨hf,ca,hy,hk⟩,Cj⟩;have Js:=qZ.eval f;rw[hf] at Js;simp only[av] at Js;obtain⟨fn,tmps,assign,body,q1,q2⟩:=hy G1 (xs.map a1.eval) w1 (hG.trans gy) qZ.st (yj qZ xs);simp only[wpOpsIn,mo];rw[if_pos (eb hg)];refine⟨fun _ _=>trivial,?_⟩;rw[Oper.semAt_eq _ _ _ (by intro c;rw[ho];simp),zX ho Js,q1];rw[Oper.uponIn_round];refine⟨fun e=>(by cases e),RoundIn.mono (F:=Fence.wide) q2 ?_⟩;rintro e W' ⟨rfl,G2,s2,g1,g2,g3⟩;have g4:=hk s2 g3;have mR:Rel Γ N G2 E1 s2 a1 W':=⟨g2,qZ.size,fun i=>av.mono g1 _ _ (qZ.tmps i),qZ.defers.trans g1.df.symm⟩;have re:=mR.put (dst:=o.dst) (Gh.le.refl G2) g2 (r:=.v (.bool true)) (v:=.bool true) (by simp[av]) hd;refine nT (l:=none) L2 I2 m2 (dI _ g4) re ?_;rintro G3 E3 s3 a3 w3 h3 re ⟨VA,SS⟩;refine⟨G3,E3,s3,gy.trans (g1.trans h3),re,VA,fun j hj=>?_⟩;have mem:∀L:List Oper,j∈cC L↔∃o∈L,o.dst=some j:=(fun L=>by simp[cC,List.mem_filterMap]);have kg:¬∃o'∈L1++o::L2,o'.dst=some j:=fun hm=>hj ((mem _).2 hm);have m1:j∉cC L1:=fun hm=>kg (by obtain⟨o,k1,k2⟩:=(mem _).1 hm;exact⟨o,by simp[k1],k2⟩);have m2:j∉cC L2:=fun hm=>kg (by obtain⟨o,k1,k2⟩:=(mem _).1 hm;exact⟨o,by simp[k1],k2⟩);have m3:o.dst≠some j:=fun e=>kg ⟨o,by simp,e⟩;rw[SS j m2,cG m3,Cj j m1]
theorem GC{l id:Nat}{o1 o2 o p1:Oper}{f:Operand}{xs:List Operand}{ts:Array TypeId}{code:Code}
    (ho:o.op=.call {callee:=.value f,args:=xs.toArray,argTypes:=ts}) (hg:o.guard=none) (hd:∀d,o.dst=some d→d<N)
    (h1:∀(K:Env→AS→Prop),(∀E s,H6 P Γ N G0 code Q E s→K E s)→∀ops,AY P Γ N ops [o1,o2] (fun E1 s1=>aN Γ E1 f=.v (.func (.yield l) #[] #[])∧∃ca,YA P Γ G0 l (xs.map (aN Γ E1)) s1 ca∧
      ∀s2,ca s2→AY P Γ N ops [p1] K (bw E1 o.dst (.v (.bool true))) s2) E s):H6 P Γ N G0 (.seq (.region id #[o1,o2,o,p1] false) code) Q E s:=
  eR (Bi [o1,o2] [p1] ho hg hd (h1 _ (fun _ _ h=>h) _))
theorem GD{l id:Nat}{o1 o2 o3 o4 o5 o6 o p1:Oper}{f:Operand}{xs:List Operand}{ts:Array TypeId}{code:Code}
    (ho:o.op=.call {callee:=.value f,args:=xs.toArray,argTypes:=ts}) (hg:o.guard=none) (hd:∀d,o.dst=some d→d<N)
    (h1:∀(K:Env→AS→Prop),(∀E s,H6 P Γ N G0 code Q E s→K E s)→∀ops,AY P Γ N ops [o1,o2,o3,o4,o5,o6] (fun E1 s1=>aN Γ E1 f=.v (.func (.yield l) #[] #[])∧∃ca,YA P Γ G0 l (xs.map (aN Γ E1)) s1 ca∧
      ∀s2,ca s2→AY P Γ N ops [p1] K (bw E1 o.dst (.v (.bool true))) s2) E s):H6 P Γ N G0 (.seq (.region id #[o1,o2,o3,o4,o5,o6,o,p1] false) code) Q E s:=
  eR (Bi [o1,o2,o3,o4,o5,o6] [p1] ho hg hd (h1 _ (fun _ _ h=>h) _))
theorem Ey{gf:FuncId}{fn:Func}{c:Code}{cg:List AV}{xs:List (List AV)}(hf:P.funcs[gf]? =some fn)(hb:fn.body=some c){n:Nat}(hN:fn.ntmps=n)(Jm:fn.results= #[])(hn:cg.length+1≤n)
    (h:∀(I:Nat→AS→Prop)(l:Nat)(s:AS)(G:Gh),I 0 s→(∀i x s1,xs[i]? =some x→I i s1→YA P Γ G l x s1 (I (i+1)))→
      H6 P Γ n G c (fun e _ s'=>(e=.normal∨e=.ret)∧I xs.length s') (bx (.v (.func (.yield l) #[] #[])::cg)) s):vT P Γ gf cg xs:=by
  subst hN;intro I l s G W lb uK SK h0 hs hy;refine callsIn_of_wp hf hb trivial ?_;have Cq:=Rel.entry (N:=fn.ntmps) (args:=.v (.func (.yield l) #[] #[])::cg) (vs:=.func (.yield l) #[] #[]::lb) hs (by simp only[ar];exact⟨_,_,rfl,by simp[av],SK⟩) (by simpa using hn) uK;rw[show(#[.func (.yield l) #[] #[]]++lb.toArray:Array Value)=(.func (.yield l) #[] #[]::lb).toArray from by simp];refine wpIn_mono (h I l s G h0 (fun i x s1 hx hI G1 us W1 hle h2 hu=>hy i x s1 G1 us W1 hx hI hle h2 hu) G _ W (.refl G) Cq) ?_;rintro e a' w' ⟨G',E',s',h1,h2,⟨h3,h4⟩,-⟩;have fin:bodyPost P fn (fun e W'=>(∃v,e=.returned v)∧∃G2 s2,G.le G2∧aQ Γ G2 s2 W'∧I xs.length s2) .normal a' w':=by
    refine⟨h2.defers.trans (h1.df.trans uK),.tuple #[],?_,⟨_,rfl⟩,G',s',h1,h2.st,h4⟩;rw[lO,Jm];simp
  rcases h3 with rfl|rfl
  · exact fin
  · exact fin
end Go.AM
namespace Go.AM
open Go Go.RowKit
variable{P:Program}{Γ:Nat→List AV}{N:Nat}{rs:List ResultVar}{ca:AV→AS→Prop}
theorem Gz.ghost{c:Code}{E E':Env}{s s':AS}(hg:eE Γ N E s E' s')(h:Gz P Γ N rs ca c E' s'):Gz P Γ N rs ca c E s:=by
  intro G a w uK hr;obtain⟨G1,h1,h2⟩:=hg G a w hr;refine wpIn_mono (h G1 a w (h1.df.trans uK) h2) ?_;rintro e a' w' ⟨he,D,G',E2,s2,k1,k2,k3⟩;exact⟨he,D,G',E2,s2,h1.trans k1,by rw[←h1.w0,←h1.B];exact k2,k3⟩
theorem Cr{c:Code}{E:Env}{s:AS}{d o:Nat}{cs:List AV}(hd:E d=.ptr o 0)(ho:s.aw o=none)(h:Gz P Γ N rs ca c (aB E d (.cN cs)) s):Gz P Γ N rs ca c E (s.set o cs):=by
  have:=eE.lA (Γ:=Γ) (N:=N) (E:=E) (s:=s.set o cs) (d:=d) hd (AS.af _ _ _);rw[AS.drop_set ho] at this;exact h.ghost this
theorem Jv{c:Code}{E:Env}{s s':AS}(h:AS.tells Γ s s')(k:Gz P Γ N rs ca c E s'):Gz P Γ N rs ca c E s:=
  fun G a w uK hr=>k G a w uK ⟨h G w hr.st,hr.size,hr.tmps,hr.defers⟩
end Go.AM
namespace Go.AM
open Go Go.RowKit
variable{rd:Option Nat}{P:Program}{Γ:Nat→List AV}{G:Gh}{s:AS}{w:World}{N:Nat}{ops:Array Oper}
inductive SM where
  |val
  |Lb (v:AV)
  |all (v:AV)
  |xd
def SM.dF:SM→Bool
  |.xd=>true
  |_=>false
def SM.isVal:SM→Bool
  |.val=>true
  |.all _=>true
  |_=>false
def GF(P:Program)(Γ:Nat→List AV)(ops:Array Oper)(o:Oper)(E:Env)(s:AS)(v:AV):Prop:=rQ ops o E∧cc P Γ (aN Γ E) s (fun r s'=>r=v∧s'=s) o.op
def SV(P:Program)(Γ:Nat→List AV)(ops:Array Oper)(m:SM)(o:Oper)(E:Env)(s:AS)(v:AV):Prop:=
  match m with
  |.val=>bE P Γ ops o E=some v
  |.Lb u=>v=u∧GF P Γ ops o E s u
  |.all u=>v=u∧∀s,GF P Γ ops o E s u
  |.xd=>False
def ka(P:Program)(Γ:Nat→List AV)(N:Nat)(ops:Array Oper):List (Oper×SM)→(Env→AS→Prop)→Env→AS→Prop
  |[],K,E,s=>K E s
  |(o,m)::rest,K,E,s=>
    if m.dF=true then AX P Γ N ops [o] (ka P Γ N ops rest K) E s
    else(∀d,o.dst=some d→d<N)∧∃v,SV P Γ ops m o E s v∧ka P Γ N ops rest K (bw E o.dst v) s
theorem tp{m:SM}{o:Oper}{E E':Env}{v:AV}(h:∀d,d∈o.looksAt ops→E' d=E d)(hv:SV P Γ ops m o E s v):SV P Γ ops m o E' s v:=by
  have ib:∀x∈o.op.operands,aN Γ E' x=aN Γ E x:=fun x hx=>by
    cases x with
    |tmp t=>exact h t (List.mem_append_left _ (List.mem_filterMap.2 ⟨.tmp t,by simpa using hx,rfl⟩))
    |const v=>rfl
    |global g=>rfl
    |func f=>rfl
  cases m with
  |Lb u=>exact⟨hv.1,Bf h hv.2.1,(mB ib).2 hv.2.2⟩
  |all u=>exact⟨hv.1,fun s=>⟨Bf h (hv.2 s).1,(mB ib).2 (hv.2 s).2⟩⟩
  |val=>exact(lL h).trans hv
  |xd=>exact hv
theorem Bj{m:SM}{o:Oper}{E:Env}{v v':AV}(h:SV P Γ ops m o E s v)(h':SV P Γ ops m o E s v'):v=v':=by
  cases m with
  |Lb u=>exact h.1.trans h'.1.symm
  |all u=>exact h.1.trans h'.1.symm
  |val=>exact Option.some.inj (Eq.trans (Eq.symm h) h')
  |xd=>exact h.elim
theorem Cs{o:Oper}{m:SM}{L:List (Oper×SM)}{E:Env}{K:Env→AS→Prop}(h:ka P Γ N ops ((o,m)::L) K E s):AX P Γ N ops [o] (ka P Γ N ops L K) E s:=by
  cases m with
  |xd=>simpa only[ka,SM.dF,if_true] using h
  |Lb u=>
    simp only[ka,SM.dF,Bool.false_eq_true,if_false] at h;obtain⟨hd,v,⟨rfl,hg,hv⟩,h⟩:=h;refine(Lc hg).2 ?_;simp only[AX];exact⟨hd,jg (fun r s' ⟨h1,h2⟩=>by subst h1 h2;exact h) hv⟩
  |all u=>
    simp only[ka,SM.dF,Bool.false_eq_true,if_false] at h;obtain⟨hd,v,⟨rfl,hg⟩,h⟩:=h;obtain⟨hg,hv⟩:=hg s;refine(Lc hg).2 ?_;simp only[AX];exact⟨hd,jg (fun r s' ⟨h1,h2⟩=>by subst h1 h2;exact h) hv⟩
  |val=>
    simp only[ka,SM.dF,Bool.false_eq_true,if_false] at h;exact SX (m:=.val) (L:=[]) (K:=ka P Γ N ops L K) (by intro e;cases e) (by simpa only[SW,GV,SV,SM.dF,Mk.dF,Bool.false_eq_true,if_false] using h)
theorem Le{o:Oper}{m:SM}{L:List (Oper×SM)}{E:Env}{a:Act}{K:Env→AS→Prop}(h:ka P Γ N ops ((o,m)::L) K E s)(hr:Rel Γ N G E s a w):
    ∃G' E' s' a' w',Rel Γ N G' E' s' a' w'∧ka P Γ N ops L K E' s'∧(∀i,o.dst≠some i→E' i=E i)∧(m.dF=false→s'=s):=by
  cases hm:m.dF with
  |true=>
    obtain⟨G',E',s',a',w',h1,h2,h3⟩:=mD (Cs h) hr;exact⟨G',E',s',a',w',h1,h2,h3,fun e=>by cases e⟩
  |false=>
    have h0:=h;simp only[ka,hm,Bool.false_eq_true,if_false] at h0;obtain⟨hd,v,hv,h0⟩:=h0;have h1:ka P Γ N ops [(o,m)] (fun E' s'=>s'=s∧E'=bw E o.dst v) E s:=by
      simp only[ka,hm,Bool.false_eq_true,if_false];exact⟨hd,v,hv,by simp⟩
    obtain⟨G',E',s',a',w',k1,⟨rfl,rfl⟩,k3⟩:=mD (Cs h1) hr;exact⟨G',_,_,a',w',k1,h0,k3,fun _=>rfl⟩
def SM.free(x y:SM):Bool:=x.isVal||y.isVal||(!x.dF&& !y.dF)
theorem Ez{y:Oper}{m:SM}(hm:m.dF=false){L2:List (Oper×SM)}{K:Env→AS→Prop}:∀(L1:List (Oper×SM)){G:Gh}{E:Env}{s:AS}{a:Act}{w:World},(∀x∈L1,ft ops x.1 y∧x.2.free m=true)→ka P Γ N ops (L1++(y,m)::L2) K E s→Rel Γ N G E s a w→
    (∀d,y.dst=some d→d<N)∧∃v,SV P Γ ops m y E s v
  |[],G,E,s,a,w,_,h,hr=>by
    simp only[List.nil_append,ka,hm,Bool.false_eq_true,if_false] at h;obtain⟨h1,v,h2,_⟩:=h;exact⟨h1,v,h2⟩
  |(x,ex)::L1,G,E,s,a,w,lM,h,hr=>by
    obtain⟨SZ,Js⟩:=lM (x,ex) (by simp);obtain⟨G',E',s',a',w',B8,hK,hf,gS⟩:=Le h hr;obtain⟨h1,v,h2⟩:=Ez hm L1 (fun x hx=>lM x (List.mem_cons_of_mem _ hx)) hK B8;have h3:SV P Γ ops m y E s' v:=tp (fun d hd=>(hf d fun e=>(Oper.apart_spec SZ).1 d e hd).symm) h2;refine⟨h1,v,?_⟩;cases hx:ex.dF with
    |false=>rw[gS hx] at h3;exact h3
    |true=>
      cases m with
      |val=>exact h3
      |all u=>exact h3
      |xd=>cases hm
      |Lb u=>cases ex<;>simp_all[SM.free,SM.isVal,SM.dF]
theorem mS{y:Oper}{m:SM}(hm:m.dF=false){L2:List (Oper×SM)}{K:Env→AS→Prop}{v:AV}:∀(L1:List (Oper×SM)){E:Env}{s:AS},(∀x∈L1,ft ops x.1 y∧x.2.free m=true)→SV P Γ ops m y E s v→ka P Γ N ops (L1++(y,m)::L2) K E s→
    ka P Γ N ops (L1++L2) K (bw E y.dst v) s
  |[],E,s,_,hv,h=>by
    simp only[List.nil_append,ka,hm,Bool.false_eq_true,if_false] at h;obtain⟨_,u,hu,h⟩:=h;rw[Bj hv hu];exact h
  |(x,ex)::L1,E,s,lM,hv,h=>by
    obtain⟨SZ,Js⟩:=lM (x,ex) (by simp);obtain⟨a1,a2,a3⟩:=Oper.apart_spec SZ;have qF:∀x∈L1,ft ops x.1 y∧x.2.free m=true:=fun x hx=>lM x (List.mem_cons_of_mem _ hx);have Q0:∀E':Env,(∀i,x.dst≠some i→E' i=E i)→SV P Γ ops m y E' s v:=fun E' hE=>tp (fun d hd=>hE d fun e=>a1 d e hd) hv;simp only[List.cons_append,ka] at h⊢;split at h
    · rename_i he;rw[if_pos he];have hval:∀E' s',(∀i,x.dst≠some i→E' i=E i)→SV P Γ ops m y E' s' v:=by
        intro E' s' hE;have:=Q0 E' hE;cases m with
        |val=>exact this
        |all u=>exact this
        |xd=>cases hm
        |Lb u=>cases ex<;>simp_all[SM.free,SM.isVal,SM.dF]
      refine(uE (fun d hd=>a3 d hd) (fun d hd e=>a2 d e hd)).2 ?_;refine cW _ (fun E' s' hE=>?_) (dg h);exact mS hm L1 qF (hval E' s' hE.2) hE.1
    · rename_i he;rw[if_neg he];obtain⟨h0,u,hu,h⟩:=h;refine⟨h0,u,tp (fun d hd=>cG fun e=>a3 d e hd) hu,?_⟩;rw[ql (fun d h1 h2=>a2 d h2 h1)];exact mS hm L1 qF (Q0 _ fun i hi=>cG hi) h
theorem ri{y:Oper}{L2:List (Oper×SM)}{K:Env→AS→Prop}:∀(L1:List (Oper×SM)){E:Env}{s:AS},(∀x∈L1,ft ops x.1 y∧x.2.free .xd=true)→ka P Γ N ops (L1++(y,.xd)::L2) K E s→
    AX P Γ N ops [y] (ka P Γ N ops (L1++L2) K) E s
  |[],E,s,_,h=>by simpa only[List.nil_append,ka,SM.dF,if_true] using h
  |(x,ex)::L1,E,s,lM,h=>by
    obtain⟨KE,hex⟩:=lM (x,ex) (by simp);obtain⟨a1,a2,a3⟩:=Oper.apart_spec KE;have qF:∀x∈L1,ft ops x.1 y∧x.2.free .xd=true:=fun x hx=>lM x (List.mem_cons_of_mem _ hx);have he:ex.dF=false:=(by cases ex<;>simp_all[SM.free,SM.isVal,SM.dF]);have gS:∀(E':Env)(s1 s2:AS)(v:AV),SV P Γ ops ex x E' s1 v→SV P Γ ops ex x E' s2 v:=fun E' s1 s2 v h=>by
      cases ex<;>first |exact h|simp_all[SM.free,SM.isVal,SM.dF]
    simp only[List.cons_append,ka,he,Bool.false_eq_true,if_false] at h;obtain⟨h0,v,hv,h⟩:=h;have h1:=ri L1 qF h;have h2:=(uE (fun d hd=>a1 d hd) (fun d hd=>a2 d hd)).1 h1;refine cW _ (fun E' s' hE=>?_) (dg h2);simp only[List.cons_append,ka,he,Bool.false_eq_true,if_false];exact⟨h0,v,gS _ s _ _ (tp (fun d hd=>hE.2 d fun e=>a3 d e hd) hv),hE.1⟩
theorem pM:∀(L:List (Oper×SM)){K K':Env→AS→Prop}{E:Env}{s:AS},(∀E s,K E s→K' E s)→ka P Γ N ops L K E s→ka P Γ N ops L K' E s
  |[],K,K',E,s,hk,h=>hk _ _ h
  |x::L,K,K',E,s,hk,h=>by
    simp only[ka] at h⊢;split at h
    · rename_i he;rw[if_pos he];exact cW _ (fun E s h=>pM L hk h) h
    · rename_i he;rw[if_neg he];obtain⟨h0,v,hv,h⟩:=h;exact⟨h0,v,hv,pM L hk h⟩
theorem uT:∀(L:List (Oper×SM)){K:Env→AS→Prop}{E:Env}{s:AS},ka P Γ N ops L K E s→ka P Γ N ops L (fun E' s'=>K E' s'∧∀i,i∉cC (L.map (·.1))→E' i=E i) E s
  |[],K,E,s,h=>⟨h,fun _ _=>rfl⟩
  |(o,mm)::L,K,E,s,h=>by
    have jk:∀i,i∉cC (((o,mm)::L).map (·.1))→i∉cC (L.map (·.1))∧o.dst≠some i:=by
      intro i hi;simp only[cC,List.map_cons,List.filterMap_cons] at hi;refine⟨fun hm=>hi ?_,fun e=>hi (by simp[e])⟩;simp only[cC] at hm;split
      · exact hm
      · exact List.mem_cons_of_mem _ hm
    simp only[ka] at h⊢;split at h
    · rename_i he;rw[if_pos he];refine cW _ (fun E' s' hE=>?_) (dg h);refine pM L (fun ji ic D5=>⟨D5.1,fun i hi=>?_⟩) (uT L hE.1);obtain⟨m1,m2⟩:=jk i hi;rw[D5.2 i m1,hE.2 i m2]
    · rename_i he;rw[if_neg he];obtain⟨h0,v,hv,h⟩:=h;refine⟨h0,v,hv,pM L (fun ji ic D5=>⟨D5.1,fun i hi=>?_⟩) (uT L h)⟩;obtain⟨m1,m2⟩:=jk i hi;rw[D5.2 i m1,cG m2]
def fj(ops:Array Oper)(mk:Nat→SM)(i:Nat):Oper×SM:=((ops[i]?).getD default,mk i)
def okS(ops:Array Oper)(D:List Nat)(mk:Nat→SM)(x y i j:Nat):Bool:=
  (D.getD j 0).testBit i||(((ops[i]?).getD default).apart ops ((ops[j]?).getD default)&&(mk i).free (mk j))||(i==x&&j==y)
def pwS(R:Nat→Nat→Bool):List Nat→Bool
  |[]=>true
  |i::l=>l.all (fun j=>R i j&&i != j)&&pwS R l
def uU(ops:Array Oper)(D:List Nat)(mk:Nat→SM)(x y:Nat)(π:List Nat):Bool:=pwS (okS ops D mk x y) π&&((List.range ops.size).all fun i=>π.contains i)&&π.all fun i=>decide (i<ops.size)
def sE(π:List Nat)(listed:Array Bool):List Nat:=π.filter fun i=>!listed.getD i true
theorem H7{R:Nat→Nat→Bool}{listed:Array Bool}{i:Nat}(hi:i<listed.size)(h0:listed.getD i true=false):∀{π:List Nat},pwS R π=true→i∈π→
    ∃L1 L2,sE π listed=L1++i::L2∧sE π (listed.setIfInBounds i true)=L1++L2∧∀z∈L1,R z i=true∧z≠i∧listed.getD z true=false
  |[],_,h=>by cases h
  |k::π,hp,hm=>by
    simp only[pwS,Bool.and_eq_true,List.all_eq_true,bne_iff_ne] at hp;obtain⟨h1,h2⟩:=hp;have cz:∀z,z≠i→(listed.setIfInBounds i true).getD z true=listed.getD z true:=by
      intro z hz;simp only[Array.getD_eq_getD_getElem?];rw[Array.getElem?_setIfInBounds_ne (by omega)]
    have hsi:(listed.setIfInBounds i true).getD i true=true:=by
      simp[Array.getD_eq_getD_getElem?,hi]
    by_cases e:k=i
    · subst e;refine⟨[],sE π listed,?_,?_,by simp⟩
      · simp only[sE,List.filter_cons,h0,Bool.not_false,if_true,List.nil_append]
      · simp only[sE,List.filter_cons,hsi,Bool.not_true,Bool.false_eq_true,if_false,List.nil_append];apply List.filter_congr;intro z hz;rw[cz z (fun q=>(h1 z hz).2 q.symm)]
    · obtain⟨L1,L2,q1,q2,q3⟩:=H7 (R:=R) hi h0 h2 ((List.mem_cons.1 hm).resolve_left fun q=>e q.symm);cases hk:listed.getD k true with
      |true=>
        refine⟨L1,L2,?_,?_,q3⟩
        · simp only[sE,List.filter_cons,hk,Bool.not_true,Bool.false_eq_true,if_false];exact q1
        · simp only[sE,List.filter_cons,cz k e,hk,Bool.not_true,Bool.false_eq_true,if_false];exact q2
      |false=>
        refine⟨k::L1,L2,?_,?_,?_⟩
        · simp only[sE,List.filter_cons,hk,Bool.not_false,if_true,List.cons_append];rw[←q1];rfl
        · simp only[sE,List.filter_cons,cz k e,hk,Bool.not_false,if_true,List.cons_append];rw[←q2];rfl
        · intro z hz;rcases List.mem_cons.1 hz with rfl|hz
          · have Jk:i∈π:=(List.mem_cons.1 hm).resolve_left fun q=>e q.symm;exact⟨(h1 i Jk).1,e,hk⟩
          · exact q3 z hz
theorem Lf{D:List Nat}{mk:Nat→SM}{x y i j:Nat}{o:Oper}(ho:ops[j]? =some o)(h:okS ops D mk x y i j=true):(D.getD j 0).testBit i=true∨(ft ops ((ops[i]?).getD default) o∧(mk i).free (mk j)=true)∨(i=x∧j=y):=by
  simp only[okS,Bool.or_eq_true,Bool.and_eq_true,beq_iff_eq,ho,Option.getD_some] at h;rcases h with(h|h)|h
  · exact .inl h
  · exact .inr (.inl h)
  · exact .inr (.inr h)
theorem Jw{listed:Array Bool}(zM:AQ ops (Region.before ops).toList=true)(h:Region.ready .any ops listed=[]):left ops listed=[]:=by
  cases hl:left ops listed with
  |nil=>rfl
  |cons i L=>
    exfalso;have hi:i∈left ops listed:=(by rw[hl];simp);obtain⟨h1,h2⟩:=mem_left.1 hi;have Ca:∀j,j<i→listed.getD j true=true:=by
      intro j hj;cases Gd:listed.getD j true with
      |true=>rfl
      |false=>
        exfalso;have HR:j∈left ops listed:=mem_left.2 ⟨by omega,Gd⟩;have hs:(left ops listed).Pairwise (· < ·):=by
          unfold left;exact List.Pairwise.filter _ List.pairwise_lt_range
        rw[hl] at hs HR;rcases List.mem_cons.1 HR with rfl|HR
        · omega
        · have:=(List.pairwise_cons.1 hs).1 j HR;omega
    have ho:ops[i]? =some ops[i]:=(by simp[h1]);have hr:i∈Region.ready .any ops listed:=by
      rw[mem_ready];refine⟨h2,_,ho,fun e he hb=>?_⟩;have bJ:=(jj zM ho).2 e (by simpa using he) hb;have:=Ca _ bJ;have fa:e.on<listed.size:=by
        rcases Nat.lt_or_ge e.on listed.size with h'|h'
        · exact h'
        · exfalso;have :listed.getD i true=true:=by
            simp[Array.getElem?_eq_none (show listed.size≤i by omega)]
          rw[h2] at this;cases this
      simpa[fa] using this
    rw[h] at hr;cases hr
def yk(ops:Array Oper)(mk:Nat→SM)(x y:Nat)(π1 π2:List Nat):Bool:=
  AQ ops (Region.before ops).toList&&uU ops (Region.before ops).toList mk x y π1&&(ops.size≤x||(uU ops (Region.before ops).toList mk y x π2&&x != y&&(mk x).dF&&(mk y).dF&&x<ops.size&&y<ops.size&&
    (List.range ops.size).all fun i=>!(mk i).dF||i==x||i==y||((Region.before ops).toList.getD i 0).testBit x))
theorem Ct{mk:Nat→SM}{x y:Nat}{π1 π2:List Nat}{Q:Exit→Act→World→Prop}{K:Env→AS→Prop}(iZ:yk ops mk x y π1 π2=true):
    ∀(fuel:Nat)(listed:Array Bool){G:Gh}{E:Env}{s:AS}{a:Act}{w:World},listed.size=ops.size→(left ops listed).length≤fuel→
      (∀(i:Nat)(o:Oper),ops[i]? =some o→listed.getD i true=true→∀e∈o.after.toList,Region.binds .any e=true→listed.getD e.on false=true)→
      ((listed.getD x true=false∧listed.getD y true=false∧ka P Γ N ops ((sE π1 listed).map (fj ops mk)) K E s∧ka P Γ N ops ((sE π2 listed).map (fj ops mk)) K E s)∨
        ∃π u v,uU ops (Region.before ops).toList mk u v π=true∧listed.getD u true=true∧ka P Γ N ops ((sE π listed).map (fj ops mk)) K E s)→Rel Γ N G E s a w→
      (∀G' E' s' a' w',G.le G'→Rel Γ N G' E' s' a' w'→K E' s'→Q .normal a' w')→wpAnyIn (uD rd) 0 P .any ops Q fuel listed a w:=by
  simp only[yk,Bool.and_eq_true,Bool.or_eq_true,decide_eq_true_eq] at iZ
  obtain⟨⟨zM,Rc⟩,Lg⟩:=iZ
  simp only[uU,Bool.and_eq_true] at Rc
  have bX:∀(listed:Array Bool),listed.size=ops.size→∀{π:List Nat},Region.ready .any ops listed=[]→sE π listed=[]:=by
    intro listed fa π h
    have h1:=Jw zM h
    unfold sE
    rw[List.filter_eq_nil_iff]
    intro i _ hi
    have aY:listed.getD i true=false:=by simpa using hi
    have bJ:i<ops.size:=by
      rw[←fa]
      rcases Nat.lt_or_ge i listed.size with q|q
      · exact q
      · simp[Array.getElem?_eq_none q] at aY
    have :i∈left ops listed:=mem_left.2 ⟨bJ,aY⟩
    rw[h1] at this
    cases this
  have qG:∀(listed:Array Bool){E:Env}{s:AS},listed.size=ops.size→Region.ready .any ops listed=[]→
      ((listed.getD x true=false∧listed.getD y true=false∧ka P Γ N ops ((sE π1 listed).map (fj ops mk)) K E s∧ka P Γ N ops ((sE π2 listed).map (fj ops mk)) K E s)∨
        ∃π u v,uU ops (Region.before ops).toList mk u v π=true∧listed.getD u true=true∧ka P Γ N ops ((sE π listed).map (fj ops mk)) K E s)→K E s:=by
    rintro listed E s fa h (⟨_,_,h1,_⟩|⟨π,_,_,_,_,h1⟩)
    · rwa [bX listed fa h] at h1
    · rwa [bX listed fa h] at h1
  intro fuel
  induction fuel with
  |zero=>
    intro listed G E s a w fa hlen gw h1 hr hq
    have hl:left ops listed=[]:=List.eq_nil_of_length_eq_zero (by omega)
    have kH:Region.ready .any ops listed=[]:=by
      cases Ox:Region.ready .any ops listed with
      |nil=>rfl
      |cons i L=>
        exfalso
        have :i∈Region.ready .any ops listed:=by rw[Ox];simp
        rw[mem_ready] at this
        obtain⟨h0,o,ho,_⟩:=this
        have :i∈left ops listed:=mem_left.2 ⟨(Array.getElem?_eq_some_iff.1 ho).1,h0⟩
        rw[hl] at this
        cases this
    exact⟨kH,hq G E s a w (.refl G) hr (qG listed fa kH h1)⟩
  |succ fuel ih=>
    intro listed G E s a w fa hlen gw hI hr hq
    refine⟨fun kH=>hq G E s a w (.refl G) hr (qG listed fa kH hI),fun i hi=>?_⟩
    obtain⟨h0,o,ho,bS⟩:=mem_ready.1 hi
    have zO:i<ops.size:=(Array.getElem?_eq_some_iff.1 ho).1
    obtain⟨M1,M2,q1,q2,_⟩:=xH fa zO h0
    have sX:∀(j:Nat)(oj:Oper),ops[j]? =some oj→(∀e∈oj.after.toList,Region.binds .any e=true→listed.getD e.on false=true)→∀l,((Region.before ops).toList.getD j 0).testBit l=true→listed.getD l false=true:=by
      intro j
      induction j using Nat.strongRecOn with
      |_ j Vl=>
        intro oj AR hj l hl
        obtain⟨d1,d2⟩:=jj zM AR
        obtain⟨e,he,hb,h1⟩:=d1 l hl
        have sD:=hj e he hb
        rcases h1 with rfl|h1
        · exact sD
        · have bJ:=d2 e he hb
          have Vm:e.on<ops.size:=by
            have:=(Array.getElem?_eq_some_iff.1 AR).1
            omega
          have D4:ops[e.on]? =some ops[e.on]:=by simp[Vm]
          refine Vl e.on bJ _ D4 (gw e.on _ D4 ?_) l h1
          have :e.on<listed.size:=by omega
          simpa[this] using sD
    have hnb:∀z,listed.getD z true=false→((Region.before ops).toList.getD i 0).testBit z=true→False:=by
      intro z hz hb
      have h3:=sX i o ho (fun e he hb=>bS e (by simpa using he) hb) z hb
      rcases Nat.lt_or_ge z listed.size with q|q
      · simp[q] at h3 hz
        rw[hz] at h3;cases h3
      · simp[Array.getElem?_eq_none q] at h3
    have cz:∀z,(listed.setIfInBounds i true).getD z true=if z=i then true else listed.getD z true:=by
      intro z
      simp only[Array.getD_eq_getD_getElem?]
      by_cases e:z=i
      · subst e;rw[if_pos rfl];simp[fa,zO]
      · rw[if_neg e,Array.getElem?_setIfInBounds_ne (by omega)]
    have tq:∀{G':Gh}{E':Env}{s':AS}{a':Act}{w':World},G.le G'→
        (((listed.setIfInBounds i true).getD x true=false∧(listed.setIfInBounds i true).getD y true=false∧ka P Γ N ops ((sE π1 (listed.setIfInBounds i true)).map (fj ops mk)) K E' s'∧ka P Γ N ops ((sE π2 (listed.setIfInBounds i true)).map (fj ops mk)) K E' s')∨
          ∃π u v,uU ops (Region.before ops).toList mk u v π=true∧(listed.setIfInBounds i true).getD u true=true∧ka P Γ N ops ((sE π (listed.setIfInBounds i true)).map (fj ops mk)) K E' s')→Rel Γ N G' E' s' a' w'→wpAnyIn (uD rd) 0 P .any ops Q fuel (listed.setIfInBounds i true) a' w':=by
      intro G' E' s' a' w' hle g1 B8
      refine ih (listed.setIfInBounds i true) (by simpa using fa) ?_ ?_ g1 B8 (fun vF ji ic zJ wA k1 k2 k3=>hq vF ji ic zJ wA (hle.trans k1) k2 k3)
      · rw[q2]
        rw[q1] at hlen
        simp at hlen⊢
        omega
      · intro j oj AR hj e he hb
        by_cases FY:j=i
        · subst FY
          rw[ho] at AR;cases AR
          exact getD_set_true (bS e (by simpa using he) hb)
        · rw[getD_set_ne true (Ne.symm FY)] at hj
          exact getD_set_true (gw j oj AR hj e he hb)
    have ib:fj ops mk i=(o,mk i):=by simp[fj,ho]
    -- a list, with the place i taken out of it
    have kG:∀{π:List Nat}{u v:Nat},uU ops (Region.before ops).toList mk u v π=true→(v≠i∨listed.getD u true=true)→∃L1 L2,sE π listed=L1++i::L2∧sE π (listed.setIfInBounds i true)=L1++L2∧
        ∀z∈L1.map (fj ops mk),ft ops z.1 o∧z.2.free (mk i)=true:=by
      intro π u v hπ hv
      simp only[uU,Bool.and_eq_true,List.all_eq_true] at hπ
      have him:i∈π:=by
        have:=hπ.1.2 i (by simpa using zO)
        simpa using this
      obtain⟨L1,L2,w1,w2,w3⟩:=H7 (R:=okS ops (Region.before ops).toList mk u v) (by omega) h0 hπ.1.1 him
      refine⟨L1,L2,w1,w2,fun z hz=>?_⟩
      obtain⟨j,hj,rfl⟩:=List.mem_map.1 hz
      obtain⟨j1,j2,j3⟩:=w3 j hj
      rcases Lf ho j1 with k|k|⟨k1,k2⟩
      · exact(hnb j j3 k).elim
      · exact k
      · rcases hv with hv|hv
        · exact absurd k2.symm hv
        · rw[k1,hv] at j3;cases j3
    have GG:uU ops (Region.before ops).toList mk x y π1=true:=by simp only[uU,Bool.and_eq_true];exact Rc
    -- the place i taken first, in one list
    have dK:∀{π:List Nat}{u v:Nat},uU ops (Region.before ops).toList mk u v π=true→(v≠i∨listed.getD u true=true)→ka P Γ N ops ((sE π listed).map (fj ops mk)) K E s→
        AX P Γ N ops [o] (ka P Γ N ops ((sE π (listed.setIfInBounds i true)).map (fj ops mk)) K) E s∧
        ((mk i).dF=false→(∀d,o.dst=some d→d<N)∧∃v,SV P Γ ops (mk i) o E s v∧ka P Γ N ops ((sE π (listed.setIfInBounds i true)).map (fj ops mk)) K (bw E o.dst v) s):=by
      intro π u v hπ hv h
      obtain⟨L1,L2,w1,w2,w3⟩:=kG hπ hv
      rw[w1,List.map_append,List.map_cons,ib] at h
      rw[w2,List.map_append]
      cases hf:(mk i).dF with
      |false=>
        obtain⟨hd,v,hv⟩:=Ez hf _ w3 h hr
        have h1:=mS hf _ w3 hv h
        refine⟨Cs (m:=mk i) ?_,fun _=>⟨hd,v,hv,h1⟩⟩
        simp only[ka,hf,Bool.false_eq_true,if_false]
        exact⟨hd,v,hv,h1⟩
      |true=>
        have S1:mk i=.xd:=by
          cases hm:mk i with
          |xd=>rfl
          |val=>rw[hm] at hf;cases hf
          |Lb u=>rw[hm] at hf;cases hf
          |all u=>rw[hm] at hf;cases hf
        rw[S1] at h w3
        exact⟨ri _ w3 h,fun e=>by cases e⟩
    rcases hI with⟨hx,hy,r1,r2⟩|⟨π,u,v,hπ,hu,r1⟩
    · have Vo:¬ops.size≤x:=by
        intro q
        rw[Array.getD_eq_getD_getElem?,Array.getElem?_eq_none (by omega)] at hx
        cases hx
      rcases Lg with q|q
      · exact absurd q Vo
      simp only[Bool.and_eq_true,bne_iff_ne,List.all_eq_true,decide_eq_true_eq] at q
      obtain⟨⟨⟨⟨⟨⟨o2,VE⟩,ex⟩,ey⟩,_⟩,_⟩,mP⟩:=q
      by_cases ix:i=x
      · subst ix
        exact jZ (L:=[]) ho (dK GG (.inl (Ne.symm VE)) r1).1 hr fun G' E' s' a' w' k1 k2 k3=>tq k1 (.inr ⟨π1,i,y,GG,by rw[cz,if_pos rfl],k3⟩) k2
      by_cases iy:i=y
      · subst iy
        exact jZ (L:=[]) ho (dK o2 (.inl VE) r2).1 hr fun G' E' s' a' w' k1 k2 k3=>tq k1 (.inr ⟨π2,i,x,o2,by rw[cz,if_pos rfl],k3⟩) k2
      cases hf:(mk i).dF with
      |true=>
        have:=mP i (by simpa using zO)
        simp only[hf,Bool.not_true,Bool.false_or,Bool.or_eq_true,beq_iff_eq] at this
        rcases this with(k|k)|k
        · exact absurd k ix
        · exact absurd k iy
        · exact(hnb x hx k).elim
      |false=>
        obtain⟨hd,v1,hv1,g1⟩:=(dK GG (.inl (Ne.symm iy)) r1).2 hf
        obtain⟨_,v2,hv2,g2⟩:=(dK o2 (.inl (Ne.symm ix)) r2).2 hf
        obtain rfl:=Bj hv1 hv2
        have hX:ka P Γ N ops [(o,mk i)] (fun E' s'=>ka P Γ N ops ((sE π1 (listed.setIfInBounds i true)).map (fj ops mk)) K E' s'∧ka P Γ N ops ((sE π2 (listed.setIfInBounds i true)).map (fj ops mk)) K E' s') E s:=by
          simp only[ka,hf,Bool.false_eq_true,if_false]
          exact⟨hd,v1,hv1,g1,g2⟩
        exact jZ (L:=[]) ho (Cs hX) hr fun G' E' s' a' w' k1 k2 k3=>tq k1 (.inl ⟨by rw[cz,if_neg (Ne.symm ix)];exact hx,by rw[cz,if_neg (Ne.symm iy)];exact hy,k3.1,k3.2⟩) k2
    · exact jZ (L:=[]) ho (dK hπ (.inr hu) r1).1 hr fun G' E' s' a' w' k1 k2 k3=>tq k1 (.inr ⟨π,u,v,hπ,by rw[cz];split;rfl;exact hu,k3⟩) k2
theorem tr{E:Env}{Q:Exit→Env→AS→Prop}(hm:P.follows .mixedOrders=true){mk:Nat→SM}{x y:Nat}{π1 π2:List Nat}{id:Nat}(iZ:yk ops mk x y π1 π2=true)
    (h1:ka P Γ N ops (π1.map (fj ops mk)) (fun E' s'=>Q .normal E' s') E s) (h2:x<ops.size→ka P Γ N ops (π2.map (fj ops mk)) (fun E' s'=>Q .normal E' s') E s):ct P Γ N (.region id ops true) Q E s:=by
  intro G a w hr;refine wpIn_region_any hm ?_;have B8:Rel Γ N G E s a w.drew:=⟨hr.st.drew,hr.size,hr.tmps,hr.defers⟩;have fA:∀i,(Array.replicate ops.size false).getD i true=decide (ops.size≤i):=by
    intro i;rw[Array.getD_eq_getD_getElem?,Array.getElem?_replicate];by_cases h:i<ops.size
    · rw[if_pos h,decide_eq_false (by omega)];rfl
    · rw[if_neg h,decide_eq_true (by omega)];rfl
  have hlen:(left ops (Array.replicate ops.size false)).length≤ops.size:=by
    unfold left;exact Nat.le_trans (List.length_filter_le _ _) (by simp)
  have xca:=iZ;simp only[yk,Bool.and_eq_true,Bool.or_eq_true,decide_eq_true_eq,uU,List.all_eq_true] at iZ;obtain⟨⟨_,hp1⟩,Lg⟩:=iZ;have key:∀{π:List Nat},(∀i∈π,i<ops.size)→ka P Γ N ops (π.map (fj ops mk)) (fun E' s'=>Q .normal E' s') E s→
      ka P Γ N ops ((sE π (Array.replicate ops.size false)).map (fj ops mk)) (fun E' s'=>Q .normal E' s'∧∀i,i∉cC ops.toList→E' i=E i) E s:=by
    intro π bJ h;have e:sE π (Array.replicate ops.size false)=π:=by
      unfold sE;rw[List.filter_eq_self];intro i hi;have:=bJ i hi;rw[fA,decide_eq_false (by omega)];rfl
    rw[e];refine pM _ (fun E' s' k=>⟨k.1,fun i hi=>k.2 i fun hm=>hi ?_⟩) (uT _ h);simp only[cC,List.mem_filterMap,List.mem_map] at hm⊢;obtain⟨o,⟨_,⟨j,hj,rfl⟩,rfl⟩,hd⟩:=hm;have Gd:=bJ j hj;refine⟨_,?_,hd⟩;simp[fj,Gd]
  refine Ct (K:=fun E' s'=>Q .normal E' s'∧∀i,i∉cC ops.toList→E' i=E i) xca ops.size (Array.replicate ops.size false) (by simp) hlen ?_ ?_ B8 ?_
  · intro i o ho hl;have :i<ops.size:=(Array.getElem?_eq_some_iff.1 ho).1;simp[this] at hl
  · by_cases hx:ops.size≤x
    · exact .inr ⟨π1,x,y,by simp only[uU,Bool.and_eq_true,List.all_eq_true,decide_eq_true_eq];exact hp1,by rw[fA,decide_eq_true hx],key hp1.2 h1⟩
    · rcases Lg with q|q
      · exact absurd q hx
      obtain⟨⟨⟨⟨⟨⟨F0,_⟩,_⟩,_⟩,_⟩,hy⟩,_⟩:=q;exact .inl ⟨by rw[fA,decide_eq_false hx],by rw[fA,decide_eq_false (by omega)],key hp1.2 h1,key F0.2 (h2 (by omega))⟩
  · intro G' E' s' a' w' k1 k2 k3;exact⟨G',E',s',k1,k2,k3.1,fun i hi=>k3.2 i hi⟩
def mkS(fl:List Nat)(gv:List (Nat×AV))(i:Nat):SM:=if fl.contains i=true then .xd else match oG gv i with |some v=>.Lb v|none=>match oG gv (i+1000) with |some v=>.all v|none=>.val
def Bk(P:Program)(Γ:Nat→List AV)(N:Nat)(ops:Array Oper)(o:Oper)(s:AS)(v:AV)(C:Env→Prop)(E:Env):Prop:=(∀d,o.dst=some d→d<N)∧GF P Γ ops o E s v∧C (bw E o.dst v)
def Lh(P:Program)(Γ:Nat→List AV)(k:FuncId)(xs:List AV)(s:AS)(v:AV)(c:Prop):Prop:=aj P Γ k xs s (fun r s'=>r=v∧s'=s)∧c
theorem nX{dst:Option Tmp}{k:FuncId}{args:Array Operand}{aT:Array TypeId}{ty:TypeId}{pos:String}{after:Array Edge}{gd:Option (Nat×Bool)}{v:AV}{C:Env→Prop}{E:Env}:
    Bk P Γ N ops {dst:=dst,op:=.call {callee:=.value (.func k),args:=args,argTypes:=aT},type:=ty,pos:=pos,after:=after,guard:=gd} s v C E=
      ((∀d,dst=some d→d<N)∧rQ ops {dst:=dst,op:=.call {callee:=.value (.func k),args:=args,argTypes:=aT},type:=ty,pos:=pos,after:=after,guard:=gd} E∧ai P k=true∧Lh P Γ k (args.toList.map (aN Γ E)) s v (C (bw E dst v))):=by
  apply propext;simp only[Bk,GF,Lh,cc,cL,dj,aN];constructor
  · rintro⟨h1,⟨h2,h3⟩,h4⟩;exact⟨h1,h2,h3.2.2.1,h3.2.2.2,h4⟩
  · rintro⟨h1,h2,h3,h4,h5⟩;exact⟨h1,⟨h2,rfl,rfl,h3,h4⟩,h5⟩
theorem nY{dst:Option Tmp}{T:TypeId}{x:Operand}{ty:TypeId}{pos:String}{after:Array Edge}{gd:Option (Nat×Bool)}{v:AV}{C:Env→Prop}{E:Env}:
    Bk P Γ N ops {dst:=dst,op:=.load T x,type:=ty,pos:=pos,after:=after,guard:=gd} s v C E=
      ((∀d,dst=some d→d<N)∧rQ ops {dst:=dst,op:=.load T x,type:=ty,pos:=pos,after:=after,guard:=gd} E∧cc P Γ (aN Γ E) s (fun r s'=>r=v∧s'=s) (.load T x)∧C (bw E dst v)):=by
  apply propext;simp only[Bk,GF,and_assoc]
def H8(P:Program)(Γ:Nat→List AV)(N:Nat)(ops:Array Oper)(o:Oper)(v:AV)(C:Env→Prop)(E:Env):Prop:=(∀d,o.dst=some d→d<N)∧(∀s,GF P Γ ops o E s v)∧C (bw E o.dst v)
def GH(P:Program)(Γ:Nat→List AV)(k:FuncId)(xs:List AV)(v:AV)(c:Prop):Prop:=(∀s,aj P Γ k xs s (fun r s'=>r=v∧s'=s))∧c
theorem H9{k:FuncId}{xs:List AV}{v:AV}{c:Prop}(h:∀s,aj P Γ k xs s (fun r s'=>r=v∧s'=s))(hc:c):GH P Γ k xs v c:=⟨h,hc⟩
theorem nZ{dst:Option Tmp}{k:FuncId}{args:Array Operand}{aT:Array TypeId}{ty:TypeId}{pos:String}{after:Array Edge}{gd:Option (Nat×Bool)}{v:AV}{C:Env→Prop}{E:Env}:
    H8 P Γ N ops {dst:=dst,op:=.call {callee:=.value (.func k),args:=args,argTypes:=aT},type:=ty,pos:=pos,after:=after,guard:=gd} v C E=
      ((∀d,dst=some d→d<N)∧rQ ops {dst:=dst,op:=.call {callee:=.value (.func k),args:=args,argTypes:=aT},type:=ty,pos:=pos,after:=after,guard:=gd} E∧ai P k=true∧GH P Γ k (args.toList.map (aN Γ E)) v (C (bw E dst v))):=by
  apply propext;simp only[H8,GF,GH,cc,cL,dj,aN];constructor
  · rintro⟨h1,h2,h4⟩;exact⟨h1,(h2 ⟨fun _=>none,fun _=>none⟩).1,(h2 ⟨fun _=>none,fun _=>none⟩).2.2.2.1,fun s=>(h2 s).2.2.2.2,h4⟩
  · rintro⟨h1,h2,h3,h4,h5⟩;exact⟨h1,fun s=>⟨h2,rfl,rfl,h3,h4 s⟩,h5⟩
def EA(P:Program)(Γ:Nat→List AV)(N:Nat)(L:List Oper)(fl:List Nat)(gv:List (Nat×AV)):List Nat→(Env→AS→Prop)→Env→AS→Prop
  |[],K,E,s=>K E s
  |i::π,K,E,s=>
    if fl.contains i=true then AX P Γ N L.toArray [L.getD i default] (EA P Γ N L fl gv π K) E s
    else match oG gv i with
      |some v=>Bk P Γ N L.toArray (L.getD i default) s v (fun E=>EA P Γ N L fl gv π K E s) E
      |none=>match oG gv (i+1000) with
      |some v=>H8 P Γ N L.toArray (L.getD i default) v (fun E=>EA P Γ N L fl gv π K E s) E
      |none=>((∀d,(L.getD i default).dst=some d→d<N)∧match bE P Γ L.toArray (L.getD i default) E with |some v=>EA P Γ N L fl gv π K (bw E (L.getD i default).dst v) s|none=>False)
theorem Li:∃f:Program→(Nat→List AV)→Nat→List Oper→List Nat→List (Nat×AV)→List Nat→(Env→AS→Prop)→Env→AS→Prop,f=EA:=⟨_,rfl⟩
noncomputable def Re:Program→(Nat→List AV)→Nat→List Oper→List Nat→List (Nat×AV)→List Nat→(Env→AS→Prop)→Env→AS→Prop:=Classical.choose Li
theorem axw:Re=EA:=Classical.choose_spec Li
theorem xg{L:List Oper}{fl:List Nat}{gv:List (Nat×AV)}{K:Env→AS→Prop}{E:Env}:Re P Γ N L fl gv [] K E s=K E s:=by rw[axw];rfl
theorem tu{L:List Oper}{fl:List Nat}{gv:List (Nat×AV)}{i:Nat}{π:List Nat}{K:Env→AS→Prop}{E:Env}:Re P Γ N L fl gv (i::π) K E s=
    if fl.contains i=true then AY P Γ N L.toArray [L.getD i default] (Re P Γ N L fl gv π K) E s
    else match oG gv i with
      |some v=>Bk P Γ N L.toArray (L.getD i default) s v (fun E=>Re P Γ N L fl gv π K E s) E
      |none=>match oG gv (i+1000) with
      |some v=>H8 P Γ N L.toArray (L.getD i default) v (fun E=>Re P Γ N L fl gv π K E s) E
      |none=>((∀d,(L.getD i default).dst=some d→d<N)∧match bE P Γ L.toArray (L.getD i default) E with |some v=>Re P Γ N L fl gv π K (bw E (L.getD i default).dst v) s|none=>False):=by rw[axw,ay];rfl
theorem EB{L:List Oper}{fl:List Nat}{gv:List (Nat×AV)}{K:Env→AS→Prop}:∀(π:List Nat){E:Env}{s:AS},EA P Γ N L fl gv π K E s→ka P Γ N L.toArray (π.map (fj L.toArray (mkS fl gv))) K E s
  |[],E,s,h=>h
  |i::π,E,s,h=>by
    have ho:(L.toArray[i]?).getD default=L.getD i default:=(by simp[List.getD]);simp only[EA] at h;simp only[List.map_cons,ka,fj,ho,mkS];cases hf:fl.contains i with
    |true=>
      rw[hf] at h;simp only[if_true,SM.dF] at h⊢;exact cW _ (fun E' s' hE=>EB π hE) h
    |false=>
      rw[hf] at h;simp only[Bool.false_eq_true,if_false] at h⊢;cases hg:oG gv i with
      |some v=>
        rw[hg] at h;simp only[SM.dF,Bool.false_eq_true,if_false];obtain⟨h1,h2,h3⟩:=h;exact⟨h1,v,⟨rfl,h2⟩,EB π h3⟩
      |none=>
        rw[hg] at h;cases ON:oG gv (i+1000) with
        |some v=>
          rw[ON] at h;simp only[ON,SM.dF,Bool.false_eq_true,if_false];obtain⟨h1,h2,h3⟩:=h;exact⟨h1,v,⟨rfl,h2⟩,EB π h3⟩
        |none=>
          rw[ON] at h;simp only[ON,SM.dF,Bool.false_eq_true,if_false];refine⟨h.1,?_⟩;have h:=h.2;split at h
          · rename_i v hv;exact⟨v,hv,EB π h⟩
          · exact h.elim
theorem pO{E:Env}{Q:Exit→Env→AS→Prop}(hm:P.follows .mixedOrders=true)(fl:List Nat)(gv:List (Nat×AV))(π:List Nat){id:Nat}{L:List Oper}{y:Code}(iZ:yk L.toArray (mkS fl gv) L.length 0 π []=true)
    (h:∀K:Env→AS→Prop,(∀E s,ct P Γ N y Q E s→K E s)→Re P Γ N L fl gv π K E s):ct P Γ N (.seq (.region id L.toArray true) y) Q E s:=by
  refine lh (tr hm iZ (EB π ?_) (fun q=>absurd q (by simp)));have:=h _ (fun _ _ h=>h);rwa [axw] at this
end Go.AM
