/- An abstract machine for the model and the rules of its walk, each proved sound over the model; no condition. -/
import Derived.Test.YtbiefppedlodiaaGreatDoorAMp6
import Derived.Shelf.Spec.SlicesInsertGrow
open Array renaming getD_eq_getD_getElem? -> aR, getElem?_eq_none -> b8, getElem?_eq_some_iff -> ao, getElem?_setIfInBounds_ne -> cE
open Bool renaming and_eq_true -> aw, false_eq_true -> ar, or_eq_true -> cp
open Classical renaming choose -> cz, choose_spec -> ct
open Go.Builtin renaming append_ -> bw, firstCells -> bp, nextslicecap -> cG, zeroCells -> cc
open Go.Fence renaming wide -> bY
open Go.Oper renaming apart_spec -> cx
open Go.Question renaming appendCap -> cv
open Go.Region renaming before -> bx, binds -> cW, ready -> bO
open List renaming all_eq_true -> aB, cons_append -> bt, filter_cons -> dz, getElem?_take -> aF, length_append -> ai, map_append -> aH, map_cons -> aG, mem_cons -> ca, mem_cons_of_mem -> aQ, mem_filterMap -> cw, nil_append -> aP, range -> aq, take_append_drop -> bW, take_left -> dh
open List.cons renaming injEq -> cM
open Nat renaming lt_or_ge -> ch, mul_le_mul_right -> b9, zero_add -> bf
open Ne renaming symm -> bQ
open Option.some renaming inj -> bZ
set_option linter.unusedSimpArgs false
set_option linter.unusedVariables false
namespace Go.AM
open Go Go.RowKit
variable{P:Program}{Γ:Nat->List AV}{G:Gh}{s:AS}{w:World}{N:Nat}
theorem Au(need old:Nat)(e:TypeId)(x:Nat)(h:need<2^63):(cv need old e).cut x<2^63:=by
  have fB:=Nat.mod_lt x (show 0<2^63-need by omega);simp only[Question.cut];omega
theorem Av{m:Nat}{u:Value}(kF:∀w',(Builtin.lenOf u).run P w'=.ok m w'){T xT e:TypeId}(hT:P.underlying T=some (.slice e))(hx:pY P (some xT)=true)
    {z:List AV} (he:u6 P e z)
    {base:Option Addr} {n cap:Nat} {olds news:List Value} (hold:∀w',(∀b j,w'.cell? ⟨b,j,none⟩=w.cell? ⟨b,j,none⟩)->(bp (P.cellsOf e) n (.slice base n cap)).run P w'=.ok olds.toArray w')
    (qL:∀w',(∀b j,w'.cell? ⟨b,j,none⟩=w.cell? ⟨b,j,none⟩)->(bp (P.cellsOf e) m u).run P w'=.ok news.toArray w')
    (hg:cap<n+m) (fN:(n+m)*P.bytesOf e<=2^46) (I6:n+m<=2^46) (ty:TypeId):
    ∃(qc:Nat)(rest:List Value),n+m<=qc∧qc<2^63∧rest.length=(qc-(n+m))*P.cellsOf e∧
      (bw #[T,xT] ty #[.slice base n cap,u]).run P w=.ok (.slice (some ⟨w.heap.size,0,none⟩) (n+m) qc) (w.drew.alloc (.cells ((olds++news)++rest).toArray e)):=by
  obtain⟨hz,kv,yo⟩:=he;obtain⟨zv,QT,CQ⟩:=iP hz;obtain⟨i,hi⟩:=la kv;have hb:P.bytesOf e=i.bytes:=(by simp[Program.bytesOf,hi]);have Of:∀w',(typeInfo e).run P w'=.ok i w':=(fun w'=>by simp[typeInfo,hi]);have YJ:¬(n+m<=cap):=oM;have tf:¬(9223372036854775807<(n:Int)+(m:Int)):=oM;have z7:=nextslicecap_le (need:=n+m) (old:=cap) hg;have tg:¬(2^48<cG (n+m) cap*i.bytes):=by
    rw[hb] at fN;have h2:cG (n+m) cap*i.bytes<=2*(n+m)*i.bytes:=b9 _ z7;rw[Nat.mul_assoc] at h2;omega
  have yo:zv.cells.size=P.cellsOf e:=by
    rw[CQ] at yo;simpa using yo
  have yp:=hold w.drew (fun b j=>rfl);have hn1:=qL w.drew (fun b j=>rfl);refine⟨_,(cc zv.cells ((cv (n+m) cap e).cut (w.tape w.drawn (.appendCap (n+m) cap e))-(n+m))).toList,lg (n+m) cap e (w.tape w.drawn (.appendCap (n+m) cap e)),Au (n+m) cap e (w.tape w.drawn (.appendCap (n+m) cap e)) oM,?_,?_⟩
  · simp[cc,yo]
  · have hf:(cv (n+m) cap e).forced=false:=rfl;rcases te hx with⟨e',hx⟩|hx;all_goals
      simp[bw,run_underlying hT,eu kv,run_underlying hx,kF,YJ,Of,tf,tg,hf,yp,hn1,QT,newRow];congr 2;apply Array.ext';simp[List.append_assoc]
def sH(sz:Nat)(s:AS)(x:AV)(n:Nat)(cs:List AV):Prop:=
  (n=0∧cs=[]∧(x=eW∨x=.sl sz 0 [] .full∨x=.sl sz 0 [] .new))∨
    ∃o cap rest,x=.jd o 0 sz n cap∧s.dD o=some (cs++rest)∧cs.length=n*sz∧rest.length=(cap-n)*sz∧n<=cap∧cap<2^63
theorem vl:∀(ds cs rest:List AV),ds.length<=rest.length->eQ (cs++rest) cs.length ds=cs++ds++rest.drop ds.length
  |[],cs,rest,_=>by simp[eQ]
  |d::ds,cs,rest,h=>by
    cases rest with
    |nil=>simp at h
    |cons r rest=>
      simp only[eQ];have e:(cs++r::rest).set cs.length d=(cs++[d])++rest:=sM;have:=vl ds (cs++[d]) rest (by simpa using h);rw[ai,List.length_singleton] at this;rw[e,this];simp
theorem Aw{x y:AV}{u v:Value}{m n:Nat}{cs ds:List AV}{T xT e:TypeId}{z:List AV}(hT:P.underlying T=some (.slice e))(hx:pY P (some xT)=true)(he:u6 P e z)
    (kF:nL (P.cellsOf e) s y=some (m,ds)) (hm:m≠0) (h1:(n+m)*P.bytesOf e<=2^46) (h2:n+m<=2^46) (pL:ds.all AV.one=true) (hb:sH (P.cellsOf e) s x n cs)
    (sY:dQ G x u) (B2:dQ G y v) (hs:eo Γ G s w) (ty:TypeId):
    ∃G' r w' o cap rest,(bw #[T,xT] ty #[u,v]).run P w=.ok r w'∧G.le G'∧n+m<=cap∧cap<2^63∧rest.length=(cap-(n+m))*P.cellsOf e∧(s.dD o=none∨∃xx,x=.jd o 0 (P.cellsOf e) n xx)∧
      eo Γ G' (s.set o (cs++ds++rest)) w'∧dQ G' (.jd o 0 (P.cellsOf e) (n+m) cap) r:=by
  obtain⟨us,hv,hlen,oD,lI⟩:=xl (P:=P) kF B2 hs;have LG:=hv.length;have grow:∀(base:Option Addr)(cap:Nat)(vs:List Value),dP G cs vs->cap<n+m->
      (∀w',(∀b j,w'.cell? ⟨b,j,none⟩=w.cell? ⟨b,j,none⟩)->(bp (P.cellsOf e) n (.slice base n cap)).run P w'=.ok vs.toArray w')->
      ∃G' r w' o qc rest,(bw #[T,xT] ty #[.slice base n cap,v]).run P w=.ok r w'∧G.le G'∧n+m<=qc∧qc<2^63∧rest.length=(qc-(n+m))*P.cellsOf e∧(s.dD o=none∨∃xx,x=.jd o 0 (P.cellsOf e) n xx)∧
        eo Γ G' (s.set o (cs++ds++rest)) w'∧dQ G' (.jd o 0 (P.cellsOf e) (n+m) qc) r:=by
    intro base cap vs LH fB hold;obtain⟨qc,rest,Ct,hc3,EX,qK⟩:=Av (P:=P) (w:=w) oD hT hx he (base:=base) (n:=n) (cap:=cap) (olds:=vs) (news:=us) hold lI fB h1 h2 ty;obtain⟨o,k1,k2,k3,k4⟩:=hs.drew.newObj (cs:=(cs++ds)++rest.map .v) (vs:=(vs++us)++rest) ((LH.append hv).append (dP.Jo rest)) e;refine⟨_,_,_,o,qc,rest.map .v,qK,k2,Ct,hc3,by simpa using EX,.inl k1,k3,?_⟩;simp only[dQ];exact⟨_,k4,rfl,Ct⟩
  rcases hb with⟨rfl,rfl,rfl|rfl|rfl⟩|⟨o,cap,rest,rfl,ho,mQ,Ax,_,I6⟩
  · simp only[eW,dQ] at sY;subst sY;exact grow none 0 [] (by simp[dP]) oM (fun w' _=>run_firstCells_none w' _ _ _ _)
  · simp only[dQ] at sY;rcases sY with⟨b,off,cap,vs,rfl,hl,_,Md,vN,uY⟩|⟨_,_,a,cap,rfl,CT⟩|⟨_,_,h,_⟩
    · simp only[ke] at uY;subst uY;exact grow _ 0 [] (by simp[dP]) oM (fun w' _=>run_firstCells_some w' _ _ _ _ _ [] sM sM)
    · rcases CT with h|h|⟨_,rfl⟩
      · cases h
      · cases h
      · exact grow _ 0 [] (by simp[dP]) oM (fun w' _=>run_firstCells_some w' _ _ _ _ _ [] sM sM)
    · cases h
  · simp only[dQ] at sY;rcases sY with⟨b,off,cap,vs,rfl,hl,_,Md,vN,uY⟩|⟨_,_,a,cap,rfl,CT⟩|⟨_,_,h,_⟩
    · simp only[ke] at uY;obtain⟨rfl,_⟩:=uY;exact grow _ 0 [] (by simp[dP]) oM (fun w' _=>run_firstCells_some w' _ _ _ _ _ [] sM sM)
    · rcases CT with h|h|⟨h,_⟩<;>cases h
    · cases h
  · have U5:=sY;simp only[dQ] at sY;obtain⟨b,Cw,rfl,Hf⟩:=sY;obtain⟨b',vs,q1,q2,q3,q4⟩:=hs.dD o _ ho;rw[Cw] at q1;cases q1;have Xm:=q2.length;have LH:=q2.take cs.length;rw[dh] at LH;have CM:=LH.length;rcases ch cap (n+m) with fB|gC
    · refine grow _ cap (vs.take cs.length) LH fB (fun w' YI=>?_);refine run_firstCells_some w' _ _ _ _ _ _ oM (fun j x hj=>?_);rw[gI,YI];rw[aF] at hj;split at hj
      · rw[bf];exact(q4 j x hj).1
      · cases hj
    · have Vt:m*P.cellsOf e<=(cap-n)*P.cellsOf e:=b9 _ oM;have Rf:cs.length+ds.length<=(cs++rest).length:=(by rw[ai,Ax,LG,hlen];omega);obtain⟨f1,f2,f3⟩:=qe hs ho Cw (off:=cs.length) Rf hv;rw[vl ds cs rest (by rw[LG,hlen,Ax];exact Vt)] at f3;rw[mQ] at f1 f2 f3;have qK:=wA (P:=P) (w:=w) (n:=n) (m:=m) (cap:=cap) (off:=0) (b:=b) oD hT hx he.2.1 (lI w (fun _ _=>rfl)) (by rw[bf];exact f1) (by rw[bf];exact f2) (qM hv pL) gC ty;rw[bf] at qK;refine⟨G,_,_,o,cap,_,qK,.refl G,gC,I6,?_,.inr ⟨cap,rfl⟩,f3,?_⟩
      · rw[List.length_drop,Ax,LG,hlen,<-Nat.sub_mul,Nat.sub_sub]
      · simp only[dQ];exact⟨b,Cw,rfl,gC⟩
theorem nR{ρ:Operand->AV}{ρ':Operand->Value}{o:Oper}{x y:Operand}{m n:Nat}{cs ds:List AV}{T xT e:TypeId}{z:List AV}(ho:o.op=.call {callee:=.builtin .append,args:=#[x,y],argTypes:=#[T,xT]})
    (hT:P.underlying T=some (.slice e)) (hx:pY P (some xT)=true) (hz:eO P e=some z) (hc:P.cellsOf e≠0) (yo:z.length=P.cellsOf e)
    (kF:nL (P.cellsOf e) s (ρ y)=some (m,ds)) (hm:m≠0) (h1:(n+m)*P.bytesOf e<=2^46) (h2:n+m<=2^46) (pL:ds.all AV.one=true) (hb:sH (P.cellsOf e) s (ρ x) n cs)
    (hρ:∀x,dQ G (ρ x) (ρ' x)) (hs:eo Γ G s w):
    iB P Γ G (fun r s'=>∃ob cap rest,r=.jd ob 0 (P.cellsOf e) (n+m) cap∧n+m<=cap∧cap<2^63∧rest.length=(cap-(n+m))*P.cellsOf e∧(s.dD ob=none∨∃xx,ρ x=.jd ob 0 (P.cellsOf e) n xx)∧s'=s.set ob (cs++ds++rest)) ((execOp ρ' o).run P w):=by
  obtain⟨G',r,w',ob,cap,rest,q1,q2,q3,q3',q4,q5,q6,q7⟩:=Aw hT hx ⟨hz,hc,yo⟩ kF hm h1 h2 pL hb (hρ x) (hρ y) hs o.type;rw[ik ho];simp only[builtin];exact iQ ⟨G',r,w',_,_,by simpa using q1,q2,q6,q7,ob,cap,rest,rfl,q3,q3',q4,q5,rfl⟩
end Go.AM
namespace Go.AM
open Go Go.RowKit
variable{rd:Option Nat}{P:Program}{Γ:Nat->List AV}{G:Gh}{s:AS}{w:World}{N:Nat}
def gj(Γ:Nat->List AV)(s:AS)(x:AV)(s':AS)(x':AV):Prop:=∀G w u,eo Γ G s w->dQ G x u->∃G',G.le G'∧eo Γ G' s' w∧dQ G' x' u
theorem gj.refl(x:AV):gj Γ s x s x:=fun G _ _ hs hv=>⟨G,.refl G,hs,hv⟩
theorem gj.trans{s1 s2 s3:AS}{x y z:AV}(h:gj Γ s1 x s2 y)(k:gj Γ s2 y s3 z):gj Γ s1 x s3 z:=by
  intro G w u hs hv;obtain⟨G1,h1,h2,h3⟩:=h G w u hs hv;obtain⟨G2,k1,k2,k3⟩:=k G1 w u h2 h3;exact⟨G2,h1.trans k1,k2,k3⟩
theorem gj.dV{x y:AV}(h:x.dV y):gj Γ s x s y:=fun G _ _ hs hv=>⟨G,.refl G,hs,h _ _ hv⟩
theorem gj.le{s':AS}(x:AV)(h:s'.le s):gj Γ s x s' x:=fun G _ _ hs hv=>⟨G,.refl G,hs.mono h,hv⟩
theorem eo.XD{o:Nat}{cs cs':List AV}(h:eo Γ G s w)(ho:s.dD o=some cs)(hw:∀vs,dP G cs vs->dP G cs' vs):eo Γ G (s.set o cs') w:=by
  refine⟨h.ro,?_,h.ib,h.inj,h.own,h.gM,h.fL,h.gF,h.fW,h.below,h.others,h.base,h.nE,h.soft⟩;intro o' ds hd;by_cases e:o'=o
  · subst e;rw[AS.bG] at hd;cases hd;obtain⟨b,vs,h1,h2,h3,h4⟩:=h.dD o' cs ho;exact⟨b,vs,h1,hw vs h2,h3,h4⟩
  · rw[AS.cO _ e] at hd;exact h.dD o' ds hd
theorem gj.cells{O:Nat}{A B:List AV}{a b:AV}(x:AV)(hO:s.dD O=some (A++a::B))(hw:a.dV b):gj Γ s x (s.set O (A++b::B)) x:=by
  intro G w u hs hv;refine⟨G,.refl G,hs.XD hO (fun vs h=>?_),hv⟩;have hl:=h.length;have h1:=h.take A.length;have h2:=h.drop A.length;rw[dh] at h1;rw[List.drop_left] at h2;generalize hd:vs.drop A.length=ds at h2;simp only[dP] at h2;obtain⟨u1,us,rfl,h3,h4⟩:=h2;rw[<-bW A.length vs,hd];exact h1.append (by simp only[dP];exact⟨u1,us,rfl,hw _ _ h3,h4⟩)
theorem gj.inner{O o sz n cap:Nat}{A B cs rest:List AV}(x:AV)(hO:s.dD O=some (A++ .jd o 0 sz n cap::B))(ho:s.dD o=some (cs++rest))(gP:O≠o)(hl:cs.length=n*sz):
    gj Γ s x ((s.drop o).set O (A++ .sl sz n cs .any::B)) x:=by
  intro G w u hs hv;obtain⟨b,vs,h1,h2,h3,h4,h5⟩:=hs.freeze ho;refine⟨_,h3,h5.XD (cs:=A++ .jd o 0 sz n cap::B) (by rw[AS.Ag,lE _ _ gP];exact hO) (fun us h=>?_),dQ.mono h3 _ _ hv⟩;have k1:=h.take A.length;have k2:=h.drop A.length;rw[dh] at k1;rw[List.drop_left] at k2;generalize hd:us.drop A.length=ds at k2;simp only[dP] at k2;obtain⟨u1,us1,rfl,k3,k4⟩:=k2;rw[<-bW A.length us,hd];refine k1.append ?_;simp only[dP];refine⟨u1,us1,rfl,?_,k4⟩;simp only[dQ] at k3⊢;obtain⟨b',q1,q2,q3⟩:=k3;rw[h3.obj _ _ h1] at q1;cases q1;have q5:=h2.take cs.length;rw[dh] at q5;refine .inl ⟨b,0,cap,_,q2,hl,q3,dP.mono h3 _ _ q5,?_,trivial⟩;intro j y hj;rw[aF] at hj;split at hj
  · exact h4 j y hj
  · cases hj
theorem gj.outer{o sz n cap:Nat}{cs rest:List AV}(ho:s.dD o=some (cs++rest))(hl:cs.length=n*sz):gj Γ s (.jd o 0 sz n cap) (s.drop o) (.sl sz n cs .any):=by
  intro G w u hs hv;obtain⟨b,vs,h1,h2,h3,h4,h5⟩:=hs.freeze ho;refine⟨_,h3,h5,?_⟩;simp only[dQ] at hv⊢;obtain⟨b',q1,q2,q3⟩:=hv;rw[h1] at q1;cases q1;have q5:=h2.take cs.length;rw[dh] at q5;refine .inl ⟨b,0,cap,_,q2,hl,q3,dP.mono h3 _ _ q5,?_,trivial⟩;intro j y hj;rw[aF] at hj;split at hj
  · exact h4 j y hj
  · cases hj
theorem dS.settle{f:FuncId}{args:List AV}{Q R:AV->AS->Prop}(h:dS P Γ f args s Q)(k:∀r s1,Q r s1->∃s2 r2,gj Γ s1 r s2 r2∧R r2 s2):dS P Γ f args s R:=by
  intro G w vs hs ha;refine(h G w vs hs ha).mono ?_;rintro e w' ⟨G',r,v,s',rfl,h1,h2,h3,h4⟩;obtain⟨s2,r2,k1,k2⟩:=k r s' h4;obtain⟨G2,q1,q2,q3⟩:=k1 G' w' v h2 h3;exact⟨G2,r2,v,s2,rfl,h1.trans q1,q2,q3,k2⟩
theorem Bw{E:Env}{Q:Exit->Env->AS->Prop}{id:Nat}{L2:List Oper}{o1 o2 o:Oper}{code:Code}(hg:o.guard=none)(hd:∀d,o.dst=some d->d<N)
    (h:∀ops,AY P Γ N ops [o1,o2] (fun E1 s1=>∃K1:AV->AS->Prop,(∀G a w,Rel Γ N G E1 s1 a w->iB P Γ G K1 ((execOp a.eval o).run P w))∧
      ∀r s2,K1 r s2->AY P Γ N ops L2 (fun E' s'=>fY P Γ N code Q E' s') (eR E1 o.dst r) s2) E s):
    fY P Γ N (.seq (.region id (o1::o2::o::L2).toArray false) code) Q E s:=
  vg [o1,o2] L2 hg hd (h _)
theorem vm{E:Env}{Q:Exit->Env->AS->Prop}{id:Nat}(L1 L2:List Oper){o:Oper}(hg:o.guard=none)(hd:∀d,o.dst=some d->d<N)
    (h:AY P Γ N (L1++o::L2).toArray L1 (fun E1 s1=>∃K1:AV->AS->Prop,(∀G a w,Rel Γ N G E1 s1 a w->iB P Γ G K1 ((execOp a.eval o).run P w))∧
      ∀r s2,K1 r s2->AY P Γ N (L1++o::L2).toArray L2 (fun E' s'=>Q .normal E' s') (eR E1 o.dst r) s2) E s):
    fY P Γ N (.region id (L1++o::L2).toArray false) Q E s:=by
  rw[ay] at h;intro G a w hr;refine wpIn_region ?_;have fG:∀ops:Array Oper,(aq ops.size).map (ops[·]?)=ops.toList.map some:=by
    intro ops;apply List.ext_getElem?;intro i;simp only[List.getElem?_map];by_cases hi:i<ops.size
    · simp[hi]
    · simp[hi]
  have vi:=fG (L1++o::L2).toArray;generalize hI:aq (L1++o::L2).toArray.size=I at vi;have h1:(I.take L1.length).map ((L1++o::L2).toArray[·]?)=L1.map some:=by
    rw[List.map_take,vi];simp
  have h2:(I.drop L1.length).map ((L1++o::L2).toArray[·]?)=(o::L2).map some:=by
    rw[List.map_drop,vi];simp
  rw[<-bW L1.length I];generalize I.take L1.length=I1 at h1;generalize I.drop L1.length=I2 at h2;cases I2 with
  |nil=>simp at h2
  |cons i I2=>
    simp only[aG,cM] at h2;refine jn L1 I1 (i::I2) h1 (ja _ h) hr ?_;rintro G1 E1 s1 a1 w1 mC wM ⟨⟨K1,lJ,hk⟩,HA⟩;rw[wpOpsIn_cons];simp only[wpOpIn,h2.1];rw[if_pos (jq hg)];refine(Oper.sF wM hd (lJ G1 a1 w1 wM) ?_);intro G3 r s3 a3 w3 Xw wN hK;refine qN L2 I2 h2.2 (ja _ (hk r s3 hK)) wN ?_;rintro G4 E4 s4 a4 w4 hG4 I8 ⟨QX,RJ⟩;refine⟨G4,E4,s4,mC.trans (Xw.trans hG4),I8,QX,?_⟩;intro i hi;have mem:∀L:List Oper,i∈fT L↔∃o∈L,o.dst=some i:=(fun L=>by simp[fT,cw]);have et:¬∃o'∈L1++o::L2,o'.dst=some i:=fun hm=>hi ((mem _).2 hm);have m1:i∉fT L1:=fun hm=>et (by obtain⟨o,k1,k2⟩:=(mem _).1 hm;exact⟨o,by simp[k1],k2⟩);have m2:i∉fT L2:=fun hm=>et (by obtain⟨o,k1,k2⟩:=(mem _).1 hm;exact⟨o,by simp[k1],k2⟩);have m3:o.dst≠some i:=fun e=>et ⟨o,sM,e⟩;rw[RJ i m2,fR m3,HA i m1]
theorem Dp{E:Env}{Q:Exit->Env->AS->Prop}{id:Nat}{L2:List Oper}{o1 o2 o3 o4 o:Oper}(hg:o.guard=none)(hd:∀d,o.dst=some d->d<N)
    (h:∀ops,AY P Γ N ops [o1,o2,o3,o4] (fun E1 s1=>∃K1:AV->AS->Prop,(∀G a w,Rel Γ N G E1 s1 a w->iB P Γ G K1 ((execOp a.eval o).run P w))∧
      ∀r s2,K1 r s2->AY P Γ N ops L2 (fun E' s'=>Q .normal E' s') (eR E1 o.dst r) s2) E s):
    fY P Γ N (.region id (o1::o2::o3::o4::o::L2).toArray false) Q E s:=
  vm [o1,o2,o3,o4] L2 hg hd (h _)
end Go.AM
namespace Go.AM
open Go Go.RowKit
variable{P:Program}{Γ:Nat->List AV}{N:Nat}{x y:List AV}
end Go.AM
namespace Go.AM
open Go Go.RowKit
variable{P:Program}{Γ:Nat->List AV}{G:Gh}{s:AS}{w:World}{N:Nat}{E:Env}
def Fm(E:Env):List Tmp->List AV->Env
  |p::ps,x::xs=>Fm (dY E p x) ps xs
  |_,_=>E
theorem Gn{G:Gh}:∀(ps:List Tmp)(xs:List AV)(us:List Value)(E:Env)(t:Array Value),dP G xs us->t.size=N->(∀p∈ps,p<N)->(∀i,dQ G (E i) (t.getD i undef))->
    ((ps.zip us).foldl (fun t(pv:Tmp×Value)=>t.setIfInBounds pv.1 pv.2) t).size=N∧∀i,dQ G (Fm E ps xs i) (((ps.zip us).foldl (fun t(pv:Tmp×Value)=>t.setIfInBounds pv.1 pv.2) t).getD i undef)
  |[],xs,us,E,t,hv,hs,hp,h=>by simp only[Fm,List.zip_nil_left,List.foldl_nil];exact⟨hs,h⟩
  |p::ps,[],us,E,t,hv,hs,hp,h=>by simp only[dP] at hv;subst hv;simp only[Fm,List.zip_nil_right,List.foldl_nil];exact⟨hs,h⟩
  |p::ps,x::xs,us,E,t,hv,hs,hp,h=>by
    simp only[dP] at hv;obtain⟨u,BW,rfl,h1,h2⟩:=hv;simp only[List.zip_cons_cons,List.foldl_cons,Fm];refine Gn ps xs BW (dY E p x) (t.setIfInBounds p u) h2 (by simpa using hs) (fun q hq=>hp q (by simp[hq])) fun i=>?_;simp only[dY];split
    · rename_i e;subst e;have :i<t.size:=(by rw[hs];exact hp i sM);simpa[Array.getD,this] using h1
    · rename_i e;have:=h i;simp only[aR] at this⊢;rw[cE oM];exact this
def Bx(P:Program)(Γ:Nat->List AV)(gf:FuncId)(gh:List AV)(xs:List (List AV)):Prop:=
  ∀(I:Nat->AS->Prop)(l:Nat)(s:AS)(G:Gh)(W:World)(lb:List Value),G.df=[]->dP G gh lb->I 0 s->eo Γ G s W->
    (∀i x s1 G1 us W1,xs[i]? =some x->I i s1->G.le G1->eo Γ G1 s1 W1->dP G1 x us->YieldAt bY 0 P l us.toArray W1 fun e W'=>e=.returned (.bool true)∧∃G2 s2,G1.le G2∧eo Γ G2 s2 W'∧I (i+1) s2)->
    CallsIn bY 0 P gf (#[.func (.yield l) #[] #[]]++lb.toArray) W fun e W'=>(∃v,e=.returned v)∧∃G2 s2,G.le G2∧eo Γ G2 s2 W'∧I xs.length s2
theorem HM{a:Act}{g:Operand}{ps:List Tmp}{assign body:Code}{gf:FuncId}{gh:List AV}{xs:List (List AV)}(hr:Rel Γ N G E s a w)(Ap:G.df=[])(hg:ef Γ E g=.wm gf gh)(QY:b7 P gf=true)(QZ:Bx P Γ gf gh xs)
    (hp:∀p∈ps,p<N) (Pu:∀x∈xs,x.length=ps.length) (I:Nat->AS->Prop) (h0:I 0 s)
    (Zd:∀(i:Nat)(x:List AV)(s1:AS),xs[i]? =some x->I i s1->fY P Γ N assign (fun e E2 s2=>e=.normal∧fY P Γ N body (fun e E3 s3=>e=.normal∧I (i+1) s3) E2 s2) (Fm E ps x) s1):
    (Code.rangeFunc g ps.toArray assign body).wpIn bY 0 P (fun e a' w'=>e=.normal∧∃D G' s',G.le G'∧w.heap.size<=D∧w'.heap[D]? =some (.deferred (some []))∧
      a'= {a with defers:={target:=.collected D,args:=#[]}::a.defers}∧eo Γ G' s' w'∧I xs.length s') a w:=by
  have YZ:=hr.eval g;rw[hg] at YZ;simp only[dQ] at YZ;obtain⟨lb,hg',Y0⟩:=YZ;have Rg:G.w0.heap.size<=w.heap.size:=hr.st.below.size;have hBw:G.B<=w.heap.size:=hr.st.base;refine wpIn_rangeFunc ?_;intro fn hfn;obtain⟨rec,vj⟩:∃rec:LoopState->Option Code->Loop,rec=fun st pe=>{state:=st,pending:=pe,fn,tmps:=a.tmps,params:=ps.toArray,assign,body,defers:=w.heap.size}:=⟨_,rfl⟩;obtain⟨W1,Vo⟩:∃W1,(w.alloc (.deferred (some []))).alloc (.loop (rec .ready none))=W1:=⟨_,rfl⟩;have Y3:W1.heap[w.heap.size+1]? =some (.loop (rec .ready none)):=by
    rw[<-Vo];have:=World.alloc_heap_new (w.alloc (.deferred (some []))) (.loop (rec .ready none));rwa [World.size_alloc] at this
  have iW:W1.heap[w.heap.size]? =some (.deferred (some [])):=by
    rw[<-Vo];exact(Below.heap_alloc _ _ _ sM).trans (World.alloc_heap_new w _)
  have lA:eo Γ G s W1:=by
    rw[<-Vo];exact(hr.st.alloc _ (by intro c T lo hi e;cases e)).alloc _ (by intro c T lo hi e;cases e)
  refine⟨w.heap.size+1,[{target:=.collected w.heap.size,args:=#[]}],W1,{target:=.fn (.func gf) lb.toArray,args:=#[.func (.yield (w.heap.size+1)) #[] #[]]},W1,gf,
    #[.func (.yield (w.heap.size+1)) #[] #[]]++lb.toArray,W1,?_,?_,?_,?_,(fun e=>by cases e),?_⟩
  · rw[<-Vo,vj];exact run_enterLoop_outer _ _ _ _ _
  · simp only[resolve,hg'];simp[go_sem]
  · intro f' _;trivial
  · have:=ti (w:=W1) QY (#[.func (.yield (w.heap.size+1)) #[] #[]]++lb.toArray);simpa[invoke,go_sem] using this
  · have hsW:eo Γ (G.setW W1) s W1:=lA.setW;refine(QZ I (w.heap.size+1) s (G.setW W1) W1 lb Ap (dP.sub (G.mU W1) _ _ Y0) h0 hsW ?_).mono ?_
    · rintro i x s1 G1 us W hx hI hle h2 hu;have Oj:G1.w0=W1:=hle.w0;have Y4:G1.B=G.B:=hle.B;have PG:iA W1 W:=(by have:=h2.others;rwa [Oj] at this);have hl:=PG _ _ Y3 (by intros;simp);have hk:=PG _ _ iW (by intros;simp);have hbW:Below G.B W1 W:=(by have:=h2.below;rwa [Oj,Y4] at this);obtain⟨q1,q2⟩:=lA.yi hle h2;have fB:w.heap.size+1<W.heap.size:=(ao.1 hl).1;have hy:=run_yield (P:=P) (args:=us.toArray) hl (by rw[vj];simp[<-hu.length,Pu x (List.mem_of_getElem? hx)]);rw[vj] at hy;refine⟨fn,_,assign,body,hy,roundIn_of_wpIn hfn ?_⟩;have e3:((ps.toArray).zip us.toArray).foldl (fun t(p,v)=>t.setIfInBounds p v) a.tmps=(ps.zip us).foldl (fun t(pv:Tmp×Value)=>t.setIfInBounds pv.1 pv.2) a.tmps:=sM;have RK:Rel Γ N ((G1.setW G.w0).setW W) (Fm E ps x) s1 {tmps:=((ps.toArray).zip us.toArray).foldl (fun t(p,v)=>t.setIfInBounds p v) a.tmps,defers:=[]} W:=by
        rw[e3];have htm:=Gn (G:=(G1.setW G.w0).setW W) ps x us E a.tmps (dP.sub (G:=G1.setW G.w0) (Gh.mU _ _) _ _ (dP.sub (G1.mU G.w0) _ _ hu)) hr.size hp fun k=>dQ.sub (G:=G1.setW G.w0) (Gh.mU _ _) _ _ (dQ.mono q2 _ _ (hr.tmps k));exact⟨q1.setW,htm.1,htm.2,by rw[show((G1.setW G.w0).setW W).df=G1.df from rfl,hle.df];exact Ap.symm⟩
      refine wpIn_mono (Zd i x s1 hx hI _ _ W RK (rd:=some (w.heap.size+1))) ?_;rintro e a1 Wa ⟨Ga,E2,s2,Fk,PH,⟨rfl,hbd⟩,-⟩;have Y5:iA W Wa:=by
        have:=PH.st.others;rwa [show Ga.w0=W from Fk.w0] at this
      have hba:Below G.B W Wa:=by
        have:=PH.st.below;rwa [show Ga.w0=W from Fk.w0,show Ga.B=G.B from Fk.B.trans Y4] at this
      have Y6:=Y5 _ _ hl (by intros;simp);have xfD:=Y5 _ _ hk (by intros;simp);obtain⟨gb1,gb2⟩:=q1.yi Fk PH.st;refine⟨_,run_beginRound Y6 (by rw[vj]),?_⟩;have RL:w.heap.size+1<Wa.heap.size:=(ao.1 Y6).1;obtain⟨W2,RN⟩:∃W2,Wa.putObj (w.heap.size+1) (.loop {rec .ready none with state:=.busy})=W2:=⟨_,rfl⟩;have CM:W2.heap[w.heap.size+1]? =some (.loop {rec .ready none with state:=.busy}):=(by rw[<-RN];exact World.putObj_heap_same RL);have hBa:Ga.B=G.B:=Fk.B.trans Y4;have oq:eo Γ (Ga.setW G.w0) s2 W2:=by
        rw[<-RN];exact gb1.putObj Y6 (by intros;simp) (by intros;simp) (by show G.w0.heap.size<=_;omega) (by show Ga.B<=_;omega)
      rw[RN];have C3:Rel Γ N ((Ga.setW G.w0).setW W2) E2 s2 a1 W2:=
        ⟨oq.setW,PH.size,fun k=>dQ.sub (G:=Ga) (G':=(Ga.setW G.w0).setW W2) ⟨rfl,rfl,rfl,rfl⟩ _ _ (PH.tmps k),PH.defers⟩
      refine wpIn_mono (hbd _ _ W2 C3 (rd:=some (w.heap.size+1))) ?_;rintro e a3 W3 ⟨G2,E3,s3,g1,⟨g2,-,-,-⟩,⟨rfl,hI3⟩,-⟩;have Xy:G2.w0=W2:=g1.w0;have hB3:G2.B=G.B:=g1.B.trans hBa;have LC:iA W2 W3:=by
        have:=g2.others;rwa [Xy] at this
      have UI:Below G.B W2 W3:=by
        have:=g2.below;rwa [Xy,hB3] at this
      have Pk:=LC _ _ CM (by intros;simp);obtain⟨g3,g4⟩:=oq.yi g1 g2;have wN:(Instr.endRound (w.heap.size+1) none).run P W3=.ok (.bool true) (W3.putObj (w.heap.size+1) (.loop (rec .ready none))):=by
        have:=run_endRound (P:=P) none Pk;rw[vj] at this⊢;exact this
      have Dh:w.heap.size+1<W3.heap.size:=(ao.1 Pk).1;have MB:=g3.putObj (o':=.loop (rec .ready none)) Pk (by intros;simp) (by intros;simp) (by show G.w0.heap.size<=_;omega) (by show G2.B<=_;omega);have hgr:∀(V:World)(o:Obj),w.heap.size+1<V.heap.size->Below G.B V (V.putObj (w.heap.size+1) o):=fun V o hV=>
        (Below.refl _ _).grown (row:=some (w.heap.size+1)) ⟨rfl,rfl,rfl,by simp[World.putObj],fun i _ hi=>World.putObj_heap_other (fun e=>hi (by rw[e]))⟩ oM (fun i e=>by cases e;omega)
      refine⟨_,_,wN,rfl,G2.setW W1,s3,?_,?_,hI3⟩
      · exact⟨fun b j v hv=>g1.ro b j v (Fk.ro b j v hv),fun o b hb=>g1.obj o b (Fk.obj o b hb),fun t e r ht=>g1.tok t e r (Fk.tok t e r ht),g1.B.trans Fk.B,Oj.symm,g1.df.trans Fk.df⟩
      · refine MB.sub (G:=G2.setW G.w0) (G':=G2.setW W1) ⟨rfl,rfl,rfl,rfl⟩ rfl rfl ?_ ?_
        · show Below G2.B W1 _;rw[hB3];refine(hbW.trans hba).trans (Below.trans ?_ (UI.trans (hgr _ _ Dh)));rw[<-RN];exact hgr _ _ RL
        · intro k o RO uS;replace RO:W1.heap[k]? =some o:=RO;by_cases e:k=w.heap.size+1
          · subst e;rw[Y3] at RO;cases RO;exact World.putObj_heap_same Dh
          · rw[World.putObj_heap_other e];refine LC k o ?_ uS;rw[<-RN,World.putObj_heap_other e];exact Y5 k o (PG k o RO uS) uS
    · rintro e W2 ⟨⟨v,rfl⟩,G2,s2,h1,h2,hI2⟩;have Oj:G2.w0=W1:=h1.w0;have PG:iA W1 W2:=(by have:=h2.others;rwa [Oj] at this);have hl:=PG _ _ Y3 (by intros;simp);have hk:=PG _ _ iW (by intros;simp);obtain⟨q1,q2⟩:=lA.yi h1 h2;refine⟨none,_,by have:=run_endLoop (P:=P) hl (by rw[vj];simp);rw[vj] at this;exact this,rfl,w.heap.size,G2.setW G.w0,s2,q2,Nat.le_refl _,(World.putObj_heap_other oM).trans hk,rfl,?_,hI2⟩;rw[vj] at hl;exact q1.putObj hl (by intros;simp) (by intros;simp) (by show G.w0.heap.size<=_;omega) (by rw[show(G2.setW G.w0).B=G2.B from rfl,h1.B];show G.B<=_;omega)
def MJ(P:Program)(Γ:Nat->List AV)(N:Nat)(rs:List ResultVar)(fV:AV->AS->Prop)(c:Code)(E:Env)(s:AS):Prop:=
  ∀(G:Gh)(a:Act)(w:World),G.df=[]->Rel Γ N G E s a w->c.wpIn bY 0 P (fun e a' w'=>(e=.normal∨e=.ret)∧∃D G' E' s',G.le G'∧(G.w0.heap.size<=D∧G.B<=D)∧w'.heap[D]? =some (.deferred (some []))∧
      a'.defers=[{target:=.collected D,args:=#[]}]∧Rel Γ N (G'.gQ a'.defers) E' s' a' w'∧fe P rs fV E' s') a w
theorem Dq{f:FuncId}{fn:Func}{c:Code}{args:List AV}{fV:AV->AS->Prop}{s:AS}(hf:P.funcs[f]? =some fn)(hb:fn.body=some c){n:Nat}(hN:fn.ntmps=n){rs:Array ResultVar}(QW:fn.results=rs)(hn:args.length<=n)
    (h:MJ P Γ n rs.toList fV c (eV args) s):dS P Γ f args s fV:=by
  subst hN;subst QW;exact ud hf hb hn h
variable{rs:List ResultVar}{fV:AV->AS->Prop}
theorem Vu{x y:Code}(h:fY P Γ N x (fun e E' s'=>e=.normal∧MJ P Γ N rs fV y E' s') E s):MJ P Γ N rs fV (.seq x y) E s:=by
  intro G a w Ap hr;refine wpIn_seq (wpIn_mono (F:=yq none) (n:=0) (h G a w hr) ?_);rintro e a1 w1 ⟨G1,E1,s1,g1,g2,⟨rfl,k⟩,-⟩;refine wpIn_mono (k G1 a1 w1 (g1.df.trans Ap) g2) ?_;rintro e a' w' ⟨he,D,G',E',s',h1,h2,h3⟩;exact⟨he,D,G',E',s',g1.trans h1,by rw[<-g1.w0,<-g1.B];exact h2,h3⟩
theorem vV{id:Nat}{L:List Oper}{y:Code}(h:∀K:Env->AS->Prop,(∀E s,MJ P Γ N rs fV y E s->K E s)->AY P Γ N L.toArray L K E s):MJ P Γ N rs fV (.seq (.region id L.toArray false) y) E s:=by
  refine Vu (tn ?_);have:=h (fun E s=>Exit.normal=.normal∧MJ P Γ N rs fV y E s) fun E s k=>⟨rfl,k⟩;rw[ay] at this;simpa using this
def MK(P:Program)(Γ:Nat->List AV)(N:Nat)(rs:List ResultVar)(fV:AV->AS->Prop)(g:Operand)(ps:List Tmp)(assign body rest:Code)(E:Env)(s:AS):Prop:=
  ∃(gf:FuncId)(gh:List AV)(xs:List (List AV))(I:Nat->AS->Prop),ef Γ E g=.wm gf gh∧b7 P gf=true∧Bx P Γ gf gh xs∧(∀x∈xs,x.length=ps.length)∧I 0 s∧
    (∀(i:Nat)(x:List AV)(s1:AS),xs[i]? =some x->I i s1->fY P Γ N assign (fun e E2 s2=>e=.normal∧fY P Γ N body (fun e E3 s3=>e=.normal∧I (i+1) s3) E2 s2) (Fm E ps x) s1)∧
    ∀s2,I xs.length s2->fY P Γ N rest (fX P rs fV) E s2
theorem PO{b:Nat}{x:Code}{g:Operand}{ps:List Tmp}{assign body rest:Code}(hp:∀p∈ps,p<N)
    (h:fY P Γ N x (fun e E' s'=>e=.normal∧MK P Γ N rs fV g ps assign body rest E' s') E s):MJ P Γ N rs fV (.seq (.seq x (.block b (.rangeFunc g ps.toArray assign body))) rest) E s:=by
  intro G a w Ap hr;refine wpIn_seq (wpIn_seq (wpIn_mono (F:=yq none) (n:=0) (h G a w hr) ?_));rintro e a1 w1 ⟨G1,E1,s1,g1,g2,⟨rfl,gf,gh,xs,I,q1,q2,q3,q4,q5,q6,q7⟩,-⟩;have xbB:G1.df=[]:=g1.df.trans Ap;refine wpIn_block (wpIn_mono (HM g2 xbB q1 q2 q3 hp q4 I q5 q6) ?_);rintro e a2 w2 ⟨rfl,D,G2,s2,h1,hD,hk,rfl,hs,hI⟩;have kv:=g2.st.below.size;have JB:=g2.st.base;refine fY.behind g2 h1 hk hs xbB (q7 s2 hI) ?_;intro e G3 E3 s3 a3 w3 j1 j2 j3 j4 j5;have hf:fe P rs fV E3 s3∧(e=.normal∨e=.ret):=by
    cases e<;>simp only[fX] at j5
    · exact⟨j5,.inl rfl⟩
    · exact⟨j5,.inr rfl⟩
  exact⟨hf.2,D,G3,E3,s3,g1.trans j1,⟨by rw[<-g1.w0];omega,by rw[<-g1.B];omega⟩,j2,j3,j4,hf.1⟩
theorem wO{id b:Nat}{L:List Oper}{g:Operand}{ps:List Tmp}{assign body rest:Code}(hp:∀p∈ps,p<N)
    (h:∀K:Env->AS->Prop,(∀E s,MK P Γ N rs fV g ps assign body rest E s->K E s)->AY P Γ N L.toArray L K E s):MJ P Γ N rs fV (.seq (.seq (.region id L.toArray false) (.block b (.rangeFunc g ps.toArray assign body))) rest) E s:=by
  refine PO hp (tn ?_);have:=h (fun E s=>Exit.normal=.normal∧MK P Γ N rs fV g ps assign body rest E s) fun E s k=>⟨rfl,k⟩;rw[ay] at this;simpa using this
end Go.AM
namespace Go.AM
open Go Go.RowKit
variable{P:Program}{Γ:Nat->List AV}{G:Gh}{s:AS}{w:World}{N:Nat}{E:Env}
theorem B7{Q:Exit->Env->AS->Prop}{id:Nat}{L2:List Oper}{o1 o2 o3 o:Oper}(hg:o.guard=none)(hd:∀d,o.dst=some d->d<N)
    (h:∀ops,AY P Γ N ops [o1,o2,o3] (fun E1 s1=>∃K1:AV->AS->Prop,(∀G a w,Rel Γ N G E1 s1 a w->iB P Γ G K1 ((execOp a.eval o).run P w))∧
      ∀r s2,K1 r s2->AY P Γ N ops L2 (fun E' s'=>Q .normal E' s') (eR E1 o.dst r) s2) E s):
    fY P Γ N (.region id (o1::o2::o3::o::L2).toArray false) Q E s:=
  vm [o1,o2,o3] L2 hg hd (h _)
def YA(P:Program)(Γ:Nat->List AV)(G0:Gh)(l:Nat)(x:List AV)(s1:AS)(fV:AS->Prop):Prop:=
  ∀(G1:Gh)(us:List Value)(W1:World),G0.le G1->eo Γ G1 s1 W1->dP G1 x us->YieldAt bY 0 P l us.toArray W1 fun e W'=>e=.returned (.bool true)∧∃G2 s2,G1.le G2∧eo Γ G2 s2 W'∧fV s2
def Om(P:Program)(Γ:Nat->List AV)(N:Nat)(G0:Gh)(c:Code)(Q:Exit->Env->AS->Prop)(E:Env)(s:AS):Prop:=
  ∀(G:Gh)(a:Act)(w:World),G0.le G->Rel Γ N G E s a w->
    c.wpIn bY 0 P (fun e a' w'=>∃G' E' s',G.le G'∧Rel Γ N G' E' s' a' w'∧Q e E' s'∧∀i,i∉writes c->E' i=E i) a w
variable{G0:Gh}{Q:Exit->Env->AS->Prop}
theorem fY.y{c:Code}(h:fY P Γ N c Q E s):Om P Γ N G0 c Q E s:=fun G a w _ hr=>h G a w hr (rd:=none)
theorem kL{x y:Code}(h:Om P Γ N G0 x (dJ (Om P Γ N G0 y Q) Q) E s):Om P Γ N G0 (.seq x y) Q E s:=by
  intro G a w hG hr;refine wpIn_seq (wpIn_mono (h G a w hG hr) ?_);rintro e a' w' ⟨G',E',s',h1,h2,h3,h4⟩;have hw:∀i,i∉writes (.seq x y)->E' i=E i:=fun i hi=>h4 i (fun hm=>hi (by simp[writes,hm]));cases e<;>simp only[Exit.then,dJ] at h3⊢;case normal=>
    refine wpIn_mono (h3 G' a' w' (hG.trans h1) h2) ?_;rintro e CX z8 ⟨ya,mW,mb,k1,k2,k3,k4⟩;exact⟨ya,mW,mb,h1.trans k1,k2,k3,fun i hi=>by rw[k4 i (fun hm=>hi (by simp[writes,hm])),hw i hi]⟩
  all_goals exact⟨G',E',s',h1,h2,h3,hw⟩
theorem vW{id:Nat}{c:Code}(h:Om P Γ N G0 c (dn id Q) E s):Om P Γ N G0 (.block id c) Q E s:=by
  intro G a w hG hr;refine wpIn_block (wpIn_mono (h G a w hG hr) ?_);rintro e a' w' ⟨G',E',s',h1,h2,h3,h4⟩;cases e<;>simp only[Exit.inBlock,dn] at h3⊢;case exit id'=>
    split at h3
    · rename_i YM;rw[if_pos YM];exact⟨G',E',s',h1,h2,h3,h4⟩
    · rename_i YM;rw[if_neg YM];exact⟨G',E',s',h1,h2,h3,h4⟩
  all_goals exact⟨G',E',s',h1,h2,h3,h4⟩
theorem J2{c:Code}(I:Env->AS->Prop)(μ:Env->AS->Nat)(h0:I E s)
    (round:∀E' s',I E' s'->(∀i,i∉writes c->E' i=E i)->Om P Γ N G0 c (dJ (fun mW mb=>I mW mb∧μ mW mb<μ E' s') Q) E' s'):Om P Γ N G0 (.loop c) Q E s:=by
  intro G a w hG hr;let Φ:Act->World->Gh->Env->AS->Prop:=fun a w G' E' s'=>G.le G'∧Rel Γ N G' E' s' a w∧I E' s'∧∀i,i∉writes c->E' i=E i;let C:Act->World->Nat->Prop:=fun a w n=>∃G' E' s',Φ a w G' E' s'∧μ E' s'=n;open Classical in
  let ν:Act->World->Nat:=fun a w=>if h:∃n,C a w n then cz (exists_least _ h) else 0
  refine wpIn_loop (fun a w=>∃n,C a w n) ν ⟨_,G,E,s,⟨.refl G,hr,h0,fun _ _=>rfl⟩,rfl⟩ ?_;intro a1 w1 hI;have hν:ν a1 w1=cz (exists_least _ hI):=(by simp only[ν];rw[dif_pos hI]);obtain⟨G1,E1,s1,⟨g1,g2,g3,g4⟩,g5⟩:=(ct (exists_least _ hI)).1;refine wpIn_mono (round E1 s1 g3 g4 G1 a1 w1 (hG.trans g1) g2) ?_;rintro e a' w' ⟨G',E',s',h1,h2,h3,h4⟩;have hw:∀i,i∉writes c->E' i=E i:=(fun i hi=>by rw[h4 i hi,g4 i hi]);cases e<;>simp only[Exit.then,dJ] at h3⊢;case normal=>
    have hC:∃n,C a' w' n:=⟨_,G',E',s',⟨g1.trans h1,h2,h3.1,hw⟩,rfl⟩;refine⟨hC,?_⟩;have :ν a' w'=cz (exists_least _ hC):=(by simp only[ν];rw[dif_pos hC]);rw[this,hν,<-g5];exact Nat.lt_of_le_of_lt ((ct (exists_least _ hC)).2 _ ⟨G',E',s',⟨g1.trans h1,h2,h3.1,hw⟩,rfl⟩) h3.2
  all_goals exact⟨G',E',s',g1.trans h1,h2,h3,hw⟩
theorem Fo{ρ:Operand->Value}{o:Oper}{f:Operand}{xs:List Operand}{ts:Array TypeId}{l:Nat}(ho:o.op=.call {callee:=.value f,args:=xs.toArray,argTypes:=ts})(hf:ρ f=.func (.yield l) #[] #[]):
    (execOp ρ o).run P w=(Instr.yield l (xs.map ρ).toArray).run P w:=by
  obtain⟨dst,op,type,pos,after,guard⟩:=o;simp only at ho;subst ho;simp[execOp,resolve,hf,Deferred.ofValue,invoke]
theorem Dr{G:Gh}{E:Env}{a:Act}{w:World}(hr:Rel Γ N G E s a w):∀xs:List Operand,dP G (xs.map (ef Γ E)) (xs.map a.eval)
  |[]=>by simp[dP]
  |x::xs=>by simp only[aG,dP];exact⟨_,_,rfl,hr.eval x,Dr hr xs⟩
theorem Gp{l id:Nat}(L1 L2:List Oper){o:Oper}{f:Operand}{xs:List Operand}{ts:Array TypeId}
    (ho:o.op=.call {callee:=.value f,args:=xs.toArray,argTypes:=ts}) (hg:o.guard=none) (hd:∀d,o.dst=some d->d<N)
    (h1:AY P Γ N (L1++o::L2).toArray L1 (fun E1 s1=>ef Γ E1 f=.v (.func (.yield l) #[] #[])∧∃fV,YA P Γ G0 l (xs.map (ef Γ E1)) s1 fV∧
      ∀s2,fV s2->AY P Γ N (L1++o::L2).toArray L2 (fun E' s'=>Q .normal E' s') (eR E1 o.dst (.v (.bool true))) s2) E s):Om P Γ N G0 (.region id (L1++o::L2).toArray false) Q E s:=by
  intro G a w hG hr;rw[ay] at h1;refine wpIn_region ?_;have vi:=Gj (L1++o::L2).toArray;generalize aq (L1++o::L2).toArray.size=I at vi⊢;obtain⟨I1,i,I2,rfl,m1,mo,m2⟩:=Gk (A:=L1) (B:=L2) (o:=o) vi;refine nO (l:=none) L1 I1 (i::I2) m1 (ja _ h1) hr ?_;rintro G1 E1 s1 a1 w1 mC wM ⟨⟨hf,fV,hy,hk⟩,HA⟩;have I9:=wM.eval f;rw[hf] at I9;simp only[dQ] at I9;obtain⟨fn,tmps,assign,body,q1,q2⟩:=hy G1 (xs.map a1.eval) w1 (hG.trans mC) wM.st (Dr wM xs);simp only[wpOpsIn,mo];rw[if_pos (jq hg)];refine⟨fun _ _=>trivial,?_⟩;rw[Oper.semAt_eq _ _ _ (by intro c;rw[ho];simp),Fo ho I9,q1];rw[Oper.uponIn_round];refine⟨fun e=>(by cases e),RoundIn.mono (F:=bY) q2 ?_⟩;rintro e W' ⟨rfl,G2,s2,g1,g2,g3⟩;have g4:=hk s2 g3;have vR:Rel Γ N G2 E1 s2 a1 W':=⟨g2,wM.size,fun i=>dQ.mono g1 _ _ (wM.tmps i),wM.defers.trans g1.df.symm⟩;have wN:=vR.put (dst:=o.dst) (Gh.le.refl G2) g2 (r:=.v (.bool true)) (v:=.bool true) (by simp[dQ]) hd;refine tu (l:=none) L2 I2 m2 (ja _ g4) wN ?_;rintro G3 E3 s3 a3 w3 h3 wN ⟨hk3,Y7⟩;refine⟨G3,E3,s3,mC.trans (g1.trans h3),wN,hk3,fun j hj=>?_⟩;have mem:∀L:List Oper,j∈fT L↔∃o∈L,o.dst=some j:=(fun L=>by simp[fT,cw]);have nH:¬∃o'∈L1++o::L2,o'.dst=some j:=fun hm=>hj ((mem _).2 hm);have m1:j∉fT L1:=fun hm=>nH (by obtain⟨o,k1,k2⟩:=(mem _).1 hm;exact⟨o,by simp[k1],k2⟩);have m2:j∉fT L2:=fun hm=>nH (by obtain⟨o,k1,k2⟩:=(mem _).1 hm;exact⟨o,by simp[k1],k2⟩);have m3:o.dst≠some j:=fun e=>nH ⟨o,sM,e⟩;rw[Y7 j m2,fR m3,HA j m1]
theorem ML{l id:Nat}{o1 o2 o p1:Oper}{f:Operand}{xs:List Operand}{ts:Array TypeId}{code:Code}
    (ho:o.op=.call {callee:=.value f,args:=xs.toArray,argTypes:=ts}) (hg:o.guard=none) (hd:∀d,o.dst=some d->d<N)
    (h1:∀(K:Env->AS->Prop),(∀E s,Om P Γ N G0 code Q E s->K E s)->∀ops,AY P Γ N ops [o1,o2] (fun E1 s1=>ef Γ E1 f=.v (.func (.yield l) #[] #[])∧∃fV,YA P Γ G0 l (xs.map (ef Γ E1)) s1 fV∧
      ∀s2,fV s2->AY P Γ N ops [p1] K (eR E1 o.dst (.v (.bool true))) s2) E s):Om P Γ N G0 (.seq (.region id #[o1,o2,o,p1] false) code) Q E s:=
  kL (Gp [o1,o2] [p1] ho hg hd (h1 _ (fun _ _ h=>h) _))
theorem MN{l id:Nat}{o1 o2 o3 o4 o5 o6 o p1:Oper}{f:Operand}{xs:List Operand}{ts:Array TypeId}{code:Code}
    (ho:o.op=.call {callee:=.value f,args:=xs.toArray,argTypes:=ts}) (hg:o.guard=none) (hd:∀d,o.dst=some d->d<N)
    (h1:∀(K:Env->AS->Prop),(∀E s,Om P Γ N G0 code Q E s->K E s)->∀ops,AY P Γ N ops [o1,o2,o3,o4,o5,o6] (fun E1 s1=>ef Γ E1 f=.v (.func (.yield l) #[] #[])∧∃fV,YA P Γ G0 l (xs.map (ef Γ E1)) s1 fV∧
      ∀s2,fV s2->AY P Γ N ops [p1] K (eR E1 o.dst (.v (.bool true))) s2) E s):Om P Γ N G0 (.seq (.region id #[o1,o2,o3,o4,o5,o6,o,p1] false) code) Q E s:=
  kL (Gp [o1,o2,o3,o4,o5,o6] [p1] ho hg hd (h1 _ (fun _ _ h=>h) _))
theorem J3{gf:FuncId}{fn:Func}{c:Code}{gh:List AV}{xs:List (List AV)}(hf:P.funcs[gf]? =some fn)(hb:fn.body=some c){n:Nat}(hN:fn.ntmps=n)(QW:fn.results= #[])(hn:gh.length+1<=n)
    (h:∀(I:Nat->AS->Prop)(l:Nat)(s:AS)(G:Gh),I 0 s->(∀i x s1,xs[i]? =some x->I i s1->YA P Γ G l x s1 (I (i+1)))->
      Om P Γ n G c (fun e _ s'=>(e=.normal∨e=.ret)∧I xs.length s') (eV (.v (.func (.yield l) #[] #[])::gh)) s):Bx P Γ gf gh xs:=by
  subst hN;intro I l s G W lb Ap Y0 h0 hs hy;refine callsIn_of_wp hf hb trivial ?_;have Ze:=Rel.entry (N:=fn.ntmps) (args:=.v (.func (.yield l) #[] #[])::gh) (vs:=.func (.yield l) #[] #[]::lb) hs (by simp only[dP];exact⟨_,_,rfl,by simp[dQ],Y0⟩) (by simpa using hn) Ap;rw[show(#[.func (.yield l) #[] #[]]++lb.toArray:Array Value)=(.func (.yield l) #[] #[]::lb).toArray from sM];refine wpIn_mono (h I l s G h0 (fun i x s1 hx hI G1 us W1 hle h2 hu=>hy i x s1 G1 us W1 hx hI hle h2 hu) G _ W (.refl G) Ze) ?_;rintro e a' w' ⟨G',E',s',h1,h2,⟨h3,h4⟩,-⟩;have fin:bodyPost P fn (fun e W'=>(∃v,e=.returned v)∧∃G2 s2,G.le G2∧eo Γ G2 s2 W'∧I xs.length s2) .normal a' w':=by
    refine⟨h2.defers.trans (h1.df.trans Ap),.tuple #[],?_,⟨_,rfl⟩,G',s',h1,h2.st,h4⟩;rw[qR,QW];simp
  rcases h3 with rfl|rfl
  · exact fin
  · exact fin
end Go.AM
namespace Go.AM
open Go Go.RowKit
variable{P:Program}{Γ:Nat->List AV}{N:Nat}{rs:List ResultVar}{fV:AV->AS->Prop}
theorem MJ.ghost{c:Code}{E E':Env}{s s':AS}(hg:kx Γ N E s E' s')(h:MJ P Γ N rs fV c E' s'):MJ P Γ N rs fV c E s:=by
  intro G a w Ap hr;obtain⟨G1,h1,h2⟩:=hg G a w hr;refine wpIn_mono (h G1 a w (h1.df.trans Ap) h2) ?_;rintro e a' w' ⟨he,D,G',E2,s2,k1,k2,k3⟩;exact⟨he,D,G',E2,s2,h1.trans k1,by rw[<-h1.w0,<-h1.B];exact k2,k3⟩
theorem HN{c:Code}{E:Env}{s:AS}{d o:Nat}{cs:List AV}(hd:E d=.ptr o 0)(ho:s.dD o=none)(h:MJ P Γ N rs fV c (dY E d (.ij cs)) s):MJ P Γ N rs fV c E (s.set o cs):=by
  have:=kx.oH (Γ:=Γ) (N:=N) (E:=E) (s:=s.set o cs) (d:=d) hd (AS.bG _ _ _);rw[AS.drop_set ho] at this;exact h.ghost this
theorem PQ{c:Code}{E:Env}{s s':AS}(h:AS.tells Γ s s')(k:MJ P Γ N rs fV c E s'):MJ P Γ N rs fV c E s:=
  fun G a w Ap hr=>k G a w Ap ⟨h G w hr.st,hr.size,hr.tmps,hr.defers⟩
end Go.AM
namespace Go.AM
open Go Go.RowKit
variable{rd:Option Nat}{P:Program}{Γ:Nat->List AV}{G:Gh}{s:AS}{w:World}{N:Nat}{ops:Array Oper}
inductive SM where
  |val
  |LQ (v:AV)
  |all (v:AV)
  |yb
def SM.gb:SM->Bool
  |.yb=>true
  |_=>false
def SM.isVal:SM->Bool
  |.val=>true
  |.all _=>true
  |_=>false
def MO(P:Program)(Γ:Nat->List AV)(ops:Array Oper)(o:Oper)(E:Env)(s:AS)(v:AV):Prop:=uG ops o E∧fS P Γ (ef Γ E) s (fun r s'=>r=v∧s'=s) o.op
def SV(P:Program)(Γ:Nat->List AV)(ops:Array Oper)(m:SM)(o:Oper)(E:Env)(s:AS)(v:AV):Prop:=
  match m with
  |.val=>eZ P Γ ops o E=some v
  |.LQ u=>v=u∧MO P Γ ops o E s u
  |.all u=>v=u∧∀s,MO P Γ ops o E s u
  |.yb=>False
def oZ(P:Program)(Γ:Nat->List AV)(N:Nat)(ops:Array Oper):List (Oper×SM)->(Env->AS->Prop)->Env->AS->Prop
  |[],K,E,s=>K E s
  |(o,m)::rest,K,E,s=>
    if m.gb=true then AX P Γ N ops [o] (oZ P Γ N ops rest K) E s
    else(∀d,o.dst=some d->d<N)∧∃v,SV P Γ ops m o E s v∧oZ P Γ N ops rest K (eR E o.dst v) s
theorem yL{m:SM}{o:Oper}{E E':Env}{v:AV}(h:∀d,d∈o.looksAt ops->E' d=E d)(hv:SV P Γ ops m o E s v):SV P Γ ops m o E' s v:=by
  have lJ:∀x∈o.op.operands,ef Γ E' x=ef Γ E x:=fun x hx=>by
    cases x with
    |tmp t=>exact h t (List.mem_append_left _ (cw.2 ⟨.tmp t,by simpa using hx,rfl⟩))
    |const v=>rfl
    |global g=>rfl
    |func f=>rfl
  cases m with
  |LQ u=>exact⟨hv.1,Ar h hv.2.1,(rQ lJ).2 hv.2.2⟩
  |all u=>exact⟨hv.1,fun s=>⟨Ar h (hv.2 s).1,(rQ lJ).2 (hv.2 s).2⟩⟩
  |val=>exact(oF h).trans hv
  |yb=>exact hv
theorem Gq{m:SM}{o:Oper}{E:Env}{v v':AV}(h:SV P Γ ops m o E s v)(h':SV P Γ ops m o E s v'):v=v':=by
  cases m with
  |LQ u=>exact h.1.trans h'.1.symm
  |all u=>exact h.1.trans h'.1.symm
  |val=>exact bZ (Eq.trans (Eq.symm h) h')
  |yb=>exact h.elim
theorem HO{o:Oper}{m:SM}{L:List (Oper×SM)}{E:Env}{K:Env->AS->Prop}(h:oZ P Γ N ops ((o,m)::L) K E s):AX P Γ N ops [o] (oZ P Γ N ops L K) E s:=by
  cases m with
  |yb=>simpa only[oZ,SM.gb,if_true] using h
  |LQ u=>
    simp only[oZ,SM.gb,ar,if_false] at h;obtain⟨hd,v,⟨rfl,hg,hv⟩,h⟩:=h;refine(MD hg).2 ?_;simp only[AX];exact⟨hd,oE (fun r s' ⟨h1,h2⟩=>by subst h1 h2;exact h) hv⟩
  |all u=>
    simp only[oZ,SM.gb,ar,if_false] at h;obtain⟨hd,v,⟨rfl,hg⟩,h⟩:=h;obtain⟨hg,hv⟩:=hg s;refine(MD hg).2 ?_;simp only[AX];exact⟨hd,oE (fun r s' ⟨h1,h2⟩=>by subst h1 h2;exact h) hv⟩
  |val=>
    simp only[oZ,SM.gb,ar,if_false] at h;exact MF (m:=.val) (L:=[]) (K:=oZ P Γ N ops L K) (by intro e;cases e) (by simpa only[uH,GV,SV,SM.gb,Mk.gb,ar,if_false] using h)
theorem RX{o:Oper}{m:SM}{L:List (Oper×SM)}{E:Env}{a:Act}{K:Env->AS->Prop}(h:oZ P Γ N ops ((o,m)::L) K E s)(hr:Rel Γ N G E s a w):
    ∃G' E' s' a' w',Rel Γ N G' E' s' a' w'∧oZ P Γ N ops L K E' s'∧(∀i,o.dst≠some i->E' i=E i)∧(m.gb=false->s'=s):=by
  cases hm:m.gb with
  |true=>
    obtain⟨G',E',s',a',w',h1,h2,h3⟩:=nz (HO h) hr;exact⟨G',E',s',a',w',h1,h2,h3,fun e=>by cases e⟩
  |false=>
    have h0:=h;simp only[oZ,hm,ar,if_false] at h0;obtain⟨hd,v,hv,h0⟩:=h0;have h1:oZ P Γ N ops [(o,m)] (fun E' s'=>s'=s∧E'=eR E o.dst v) E s:=by
      simp only[oZ,hm,ar,if_false];exact⟨hd,v,hv,sM⟩
    obtain⟨G',E',s',a',w',k1,⟨rfl,rfl⟩,k3⟩:=nz (HO h1) hr;exact⟨G',_,_,a',w',k1,h0,k3,fun _=>rfl⟩
def SM.free(x y:SM):Bool:=x.isVal||y.isVal||(!x.gb&& !y.gb)
theorem J4{y:Oper}{m:SM}(hm:m.gb=false){L2:List (Oper×SM)}{K:Env->AS->Prop}:∀(L1:List (Oper×SM)){G:Gh}{E:Env}{s:AS}{a:Act}{w:World},(∀x∈L1,jb ops x.1 y∧x.2.free m=true)->oZ P Γ N ops (L1++(y,m)::L2) K E s->Rel Γ N G E s a w->
    (∀d,y.dst=some d->d<N)∧∃v,SV P Γ ops m y E s v
  |[],G,E,s,a,w,_,h,hr=>by
    simp only[aP,oZ,hm,ar,if_false] at h;obtain⟨h1,v,h2,_⟩:=h;exact⟨h1,v,h2⟩
  |(x,ex)::L1,G,E,s,a,w,nG,h,hr=>by
    obtain⟨Zf,I9⟩:=nG (x,ex) sM;obtain⟨G',E',s',a',w',xo,hK,hf,np⟩:=RX h hr;obtain⟨h1,v,h2⟩:=J4 hm L1 (fun x hx=>nG x (aQ _ hx)) hK xo;have h3:SV P Γ ops m y E s' v:=yL (fun d hd=>(hf d fun e=>(cx Zf).1 d e hd).symm) h2;refine⟨h1,v,?_⟩;cases hx:ex.gb with
    |false=>rw[np hx] at h3;exact h3
    |true=>
      cases m with
      |val=>exact h3
      |all u=>exact h3
      |yb=>cases hm
      |LQ u=>cases ex<;>simp_all[SM.free,SM.isVal,SM.gb]
theorem ss{y:Oper}{m:SM}(hm:m.gb=false){L2:List (Oper×SM)}{K:Env->AS->Prop}{v:AV}:∀(L1:List (Oper×SM)){E:Env}{s:AS},(∀x∈L1,jb ops x.1 y∧x.2.free m=true)->SV P Γ ops m y E s v->oZ P Γ N ops (L1++(y,m)::L2) K E s->
    oZ P Γ N ops (L1++L2) K (eR E y.dst v) s
  |[],E,s,_,hv,h=>by
    simp only[aP,oZ,hm,ar,if_false] at h;obtain⟨_,u,hu,h⟩:=h;rw[Gq hv hu];exact h
  |(x,ex)::L1,E,s,nG,hv,h=>by
    obtain⟨Zf,I9⟩:=nG (x,ex) sM;obtain⟨a1,a2,a3⟩:=cx Zf;have rH:∀x∈L1,jb ops x.1 y∧x.2.free m=true:=fun x hx=>nG x (aQ _ hx);have Rj:∀E':Env,(∀i,x.dst≠some i->E' i=E i)->SV P Γ ops m y E' s v:=fun E' hE=>yL (fun d hd=>hE d fun e=>a1 d e hd) hv;simp only[bt,oZ] at h⊢;split at h
    · rename_i he;rw[if_pos he];have hval:∀E' s',(∀i,x.dst≠some i->E' i=E i)->SV P Γ ops m y E' s' v:=by
        intro E' s' hE;have:=Rj E' hE;cases m with
        |val=>exact this
        |all u=>exact this
        |yb=>cases hm
        |LQ u=>cases ex<;>simp_all[SM.free,SM.isVal,SM.gb]
      refine(u9 (fun d hd=>a3 d hd) (fun d hd e=>a2 d e hd)).2 ?_;refine gi _ (fun E' s' hE=>?_) (gu h);exact ss hm L1 rH (hval E' s' hE.2) hE.1
    · rename_i he;rw[if_neg he];obtain⟨h0,u,hu,h⟩:=h;refine⟨h0,u,yL (fun d hd=>fR fun e=>a3 d e hd) hu,?_⟩;rw[qA (fun d h1 h2=>a2 d h2 h1)];exact ss hm L1 rH (Rj _ fun i hi=>fR hi) h
theorem wQ{y:Oper}{L2:List (Oper×SM)}{K:Env->AS->Prop}:∀(L1:List (Oper×SM)){E:Env}{s:AS},(∀x∈L1,jb ops x.1 y∧x.2.free .yb=true)->oZ P Γ N ops (L1++(y,.yb)::L2) K E s->
    AX P Γ N ops [y] (oZ P Γ N ops (L1++L2) K) E s
  |[],E,s,_,h=>by simpa only[aP,oZ,SM.gb,if_true] using h
  |(x,ex)::L1,E,s,nG,h=>by
    obtain⟨Mi,hex⟩:=nG (x,ex) sM;obtain⟨a1,a2,a3⟩:=cx Mi;have rH:∀x∈L1,jb ops x.1 y∧x.2.free .yb=true:=fun x hx=>nG x (aQ _ hx);have he:ex.gb=false:=(by cases ex<;>simp_all[SM.free,SM.isVal,SM.gb]);have np:∀(E':Env)(s1 s2:AS)(v:AV),SV P Γ ops ex x E' s1 v->SV P Γ ops ex x E' s2 v:=fun E' s1 s2 v h=>by
      cases ex<;>first |exact h|simp_all[SM.free,SM.isVal,SM.gb]
    simp only[bt,oZ,he,ar,if_false] at h;obtain⟨h0,v,hv,h⟩:=h;have h1:=wQ L1 rH h;have h2:=(u9 (fun d hd=>a1 d hd) (fun d hd=>a2 d hd)).1 h1;refine gi _ (fun E' s' hE=>?_) (gu h2);simp only[bt,oZ,he,ar,if_false];exact⟨h0,v,np _ s _ _ (yL (fun d hd=>hE.2 d fun e=>a3 d e hd) hv),hE.1⟩
theorem vn:∀(L:List (Oper×SM)){K K':Env->AS->Prop}{E:Env}{s:AS},(∀E s,K E s->K' E s)->oZ P Γ N ops L K E s->oZ P Γ N ops L K' E s
  |[],K,K',E,s,hk,h=>hk _ _ h
  |x::L,K,K',E,s,hk,h=>by
    simp only[oZ] at h⊢;split at h
    · rename_i he;rw[if_pos he];exact gi _ (fun E s h=>vn L hk h) h
    · rename_i he;rw[if_neg he];obtain⟨h0,v,hv,h⟩:=h;exact⟨h0,v,hv,vn L hk h⟩
theorem Ay:∀(L:List (Oper×SM)){K:Env->AS->Prop}{E:Env}{s:AS},oZ P Γ N ops L K E s->oZ P Γ N ops L (fun E' s'=>K E' s'∧∀i,i∉fT (L.map (·.1))->E' i=E i) E s
  |[],K,E,s,h=>⟨h,fun _ _=>rfl⟩
  |(o,mm)::L,K,E,s,h=>by
    have rI:∀i,i∉fT (((o,mm)::L).map (·.1))->i∉fT (L.map (·.1))∧o.dst≠some i:=by
      intro i hi;simp only[fT,aG,List.filterMap_cons] at hi;refine⟨fun hm=>hi ?_,fun e=>hi (by simp[e])⟩;simp only[fT] at hm;split
      · exact hm
      · exact aQ _ hm
    simp only[oZ] at h⊢;split at h
    · rename_i he;rw[if_pos he];refine gi _ (fun E' s' hE=>?_) (gu h);refine vn L (fun mW mb C2=>⟨C2.1,fun i hi=>?_⟩) (Ay L hE.1);obtain⟨m1,m2⟩:=rI i hi;rw[C2.2 i m1,hE.2 i m2]
    · rename_i he;rw[if_neg he];obtain⟨h0,v,hv,h⟩:=h;refine⟨h0,v,hv,vn L (fun mW mb C2=>⟨C2.1,fun i hi=>?_⟩) (Ay L h)⟩;obtain⟨m1,m2⟩:=rI i hi;rw[C2.2 i m1,fR m2]
def lC(ops:Array Oper)(mk:Nat->SM)(i:Nat):Oper×SM:=((ops[i]?).getD default,mk i)
def okS(ops:Array Oper)(D:List Nat)(mk:Nat->SM)(x y i j:Nat):Bool:=
  (D.getD j 0).testBit i||(((ops[i]?).getD default).apart ops ((ops[j]?).getD default)&&(mk i).free (mk j))||(i==x&&j==y)
def pwS(R:Nat->Nat->Bool):List Nat->Bool
  |[]=>true
  |i::l=>l.all (fun j=>R i j&&i != j)&&pwS R l
def Az(ops:Array Oper)(D:List Nat)(mk:Nat->SM)(x y:Nat)(π:List Nat):Bool:=pwS (okS ops D mk x y) π&&((aq ops.size).all fun i=>π.contains i)&&π.all fun i=>decide (i<ops.size)
def yc(π:List Nat)(listed:Array Bool):List Nat:=π.filter fun i=>!listed.getD i true
theorem On{R:Nat->Nat->Bool}{listed:Array Bool}{i:Nat}(hi:i<listed.size)(h0:listed.getD i true=false):∀{π:List Nat},pwS R π=true->i∈π->
    ∃L1 L2,yc π listed=L1++i::L2∧yc π (listed.setIfInBounds i true)=L1++L2∧∀z∈L1,R z i=true∧z≠i∧listed.getD z true=false
  |[],_,h=>by cases h
  |k::π,hp,hm=>by
    simp only[pwS,aw,aB,bne_iff_ne] at hp;obtain⟨h1,h2⟩:=hp;have fO:∀z,z≠i->(listed.setIfInBounds i true).getD z true=listed.getD z true:=by
      intro z hz;simp only[aR];rw[cE oM]
    have hsi:(listed.setIfInBounds i true).getD i true=true:=by
      simp[aR,hi]
    by_cases e:k=i
    · subst e;refine⟨[],yc π listed,?_,?_,sM⟩
      · simp only[yc,dz,h0,Bool.not_false,if_true,aP]
      · simp only[yc,dz,hsi,Bool.not_true,ar,if_false,aP];apply List.filter_congr;intro z hz;rw[fO z (fun q=>(h1 z hz).2 q.symm)]
    · obtain⟨L1,L2,q1,q2,q3⟩:=On (R:=R) hi h0 h2 ((ca.1 hm).resolve_left fun q=>e q.symm);cases hk:listed.getD k true with
      |true=>
        refine⟨L1,L2,?_,?_,q3⟩
        · simp only[yc,dz,hk,Bool.not_true,ar,if_false];exact q1
        · simp only[yc,dz,fO k e,hk,Bool.not_true,ar,if_false];exact q2
      |false=>
        refine⟨k::L1,L2,?_,?_,?_⟩
        · simp only[yc,dz,hk,Bool.not_false,if_true,bt];rw[<-q1];rfl
        · simp only[yc,dz,fO k e,hk,Bool.not_false,if_true,bt];rw[<-q2];rfl
        · intro z hz;rcases ca.1 hz with rfl|hz
          · have JC:i∈π:=(ca.1 hm).resolve_left fun q=>e q.symm;exact⟨(h1 i JC).1,e,hk⟩
          · exact q3 z hz
theorem RY{D:List Nat}{mk:Nat->SM}{x y i j:Nat}{o:Oper}(ho:ops[j]? =some o)(h:okS ops D mk x y i j=true):(D.getD j 0).testBit i=true∨(jb ops ((ops[i]?).getD default) o∧(mk i).free (mk j)=true)∨(i=x∧j=y):=by
  simp only[okS,cp,aw,beq_iff_eq,ho,Option.getD_some] at h;rcases h with(h|h)|h
  · exact .inl h
  · exact .inr (.inl h)
  · exact .inr (.inr h)
theorem PR{listed:Array Bool}(Ab:Bm ops (bx ops).toList=true)(h:bO .any ops listed=[]):left ops listed=[]:=by
  cases hl:left ops listed with
  |nil=>rfl
  |cons i L=>
    exfalso;have hi:i∈left ops listed:=(by rw[hl];simp);obtain⟨h1,h2⟩:=mem_left.1 hi;have C0:∀j,j<i->listed.getD j true=true:=by
      intro j hj;cases Jw:listed.getD j true with
      |true=>rfl
      |false=>
        exfalso;have Hj:j∈left ops listed:=mem_left.2 ⟨oM,Jw⟩;have hs:(left ops listed).Pairwise (· < ·):=by
          unfold left;exact List.Pairwise.filter _ List.pairwise_lt_range
        rw[hl] at hs Hj;rcases ca.1 Hj with rfl|Hj
        · omega
        · have:=(List.pairwise_cons.1 hs).1 j Hj;omega
    have ho:ops[i]? =some ops[i]:=(by simp[h1]);have hr:i∈bO .any ops listed:=by
      rw[mem_ready];refine⟨h2,_,ho,fun e he hb=>?_⟩;have fB:=(lL Ab ho).2 e (by simpa using he) hb;have:=C0 _ fB;have kv:e.on<listed.size:=by
        rcases ch e.on listed.size with h'|h'
        · exact h'
        · exfalso;have :listed.getD i true=true:=by
            simp[b8 (show listed.size<=i by omega)]
          rw[h2] at this;cases this
      simpa[kv] using this
    rw[h] at hr;cases hr
def Ds(ops:Array Oper)(mk:Nat->SM)(x y:Nat)(π1 π2:List Nat):Bool:=
  Bm ops (bx ops).toList&&Az ops (bx ops).toList mk x y π1&&(ops.size<=x||(Az ops (bx ops).toList mk y x π2&&x != y&&(mk x).gb&&(mk y).gb&&x<ops.size&&y<ops.size&&
    (aq ops.size).all fun i=>!(mk i).gb||i==x||i==y||((bx ops).toList.getD i 0).testBit x))
theorem HP{mk:Nat->SM}{x y:Nat}{π1 π2:List Nat}{Q:Exit->Act->World->Prop}{K:Env->AS->Prop}(mR:Ds ops mk x y π1 π2=true):
    ∀(fuel:Nat)(listed:Array Bool){G:Gh}{E:Env}{s:AS}{a:Act}{w:World},listed.size=ops.size->(left ops listed).length<=fuel->
      (∀(i:Nat)(o:Oper),ops[i]? =some o->listed.getD i true=true->∀e∈o.after.toList,cW .any e=true->listed.getD e.on false=true)->
      ((listed.getD x true=false∧listed.getD y true=false∧oZ P Γ N ops ((yc π1 listed).map (lC ops mk)) K E s∧oZ P Γ N ops ((yc π2 listed).map (lC ops mk)) K E s)∨
        ∃π u v,Az ops (bx ops).toList mk u v π=true∧listed.getD u true=true∧oZ P Γ N ops ((yc π listed).map (lC ops mk)) K E s)->Rel Γ N G E s a w->
      (∀G' E' s' a' w',G.le G'->Rel Γ N G' E' s' a' w'->K E' s'->Q .normal a' w')->wpAnyIn (yq rd) 0 P .any ops Q fuel listed a w:=by
  simp only[Ds,aw,cp,decide_eq_true_eq] at mR
  obtain⟨⟨Ab,XE⟩,RZ⟩:=mR
  simp only[Az,aw] at XE
  have fu:∀(listed:Array Bool),listed.size=ops.size->∀{π:List Nat},bO .any ops listed=[]->yc π listed=[]:=by
    intro listed kv π h
    have h1:=PR Ab h
    unfold yc
    rw[List.filter_eq_nil_iff]
    intro i _ hi
    have et:listed.getD i true=false:=by simpa using hi
    have fB:i<ops.size:=by
      rw[<-kv]
      rcases ch i listed.size with q|q
      · exact q
      · simp[b8 q] at et
    have :i∈left ops listed:=mem_left.2 ⟨fB,et⟩
    rw[h1] at this
    cases this
  have tB:∀(listed:Array Bool){E:Env}{s:AS},listed.size=ops.size->bO .any ops listed=[]->
      ((listed.getD x true=false∧listed.getD y true=false∧oZ P Γ N ops ((yc π1 listed).map (lC ops mk)) K E s∧oZ P Γ N ops ((yc π2 listed).map (lC ops mk)) K E s)∨
        ∃π u v,Az ops (bx ops).toList mk u v π=true∧listed.getD u true=true∧oZ P Γ N ops ((yc π listed).map (lC ops mk)) K E s)->K E s:=by
    rintro listed E s kv h (⟨_,_,h1,_⟩|⟨π,_,_,_,_,h1⟩)
    · rwa [fu listed kv h] at h1
    · rwa [fu listed kv h] at h1
  intro fuel
  induction fuel with
  |zero=>
    intro listed G E s a w kv hlen mQ h1 hr hq
    have hl:left ops listed=[]:=List.eq_nil_of_length_eq_zero oM
    have mH:bO .any ops listed=[]:=by
      cases U8:bO .any ops listed with
      |nil=>rfl
      |cons i L=>
        exfalso
        have :i∈bO .any ops listed:=by rw[U8];simp
        rw[mem_ready] at this
        obtain⟨h0,o,ho,_⟩:=this
        have :i∈left ops listed:=mem_left.2 ⟨(ao.1 ho).1,h0⟩
        rw[hl] at this
        cases this
    exact⟨mH,hq G E s a w (.refl G) hr (tB listed kv mH h1)⟩
  |succ fuel ih=>
    intro listed G E s a w kv hlen mQ hI hr hq
    refine⟨fun mH=>hq G E s a w (.refl G) hr (tB listed kv mH hI),fun i hi=>?_⟩
    obtain⟨h0,o,ho,fG⟩:=mem_ready.1 hi
    have Ac:i<ops.size:=(ao.1 ho).1
    obtain⟨M1,M2,q1,q2,_⟩:=yx kv Ac h0
    have tq:∀(j:Nat)(oj:Oper),ops[j]? =some oj->(∀e∈oj.after.toList,cW .any e=true->listed.getD e.on false=true)->∀l,((bx ops).toList.getD j 0).testBit l=true->listed.getD l false=true:=by
      intro j
      induction j using Nat.strongRecOn with
      |_ j YN=>
        intro oj Ad hj l hl
        obtain⟨d1,d2⟩:=lL Ab Ad
        obtain⟨e,he,hb,h1⟩:=d1 l hl
        have B3:=hj e he hb
        rcases h1 with rfl|h1
        · exact B3
        · have fB:=d2 e he hb
          have YO:e.on<ops.size:=by
            have:=(ao.1 Ad).1
            omega
          have C1:ops[e.on]? =some ops[e.on]:=by simp[YO]
          refine YN e.on fB _ C1 (mQ e.on _ C1 ?_) l h1
          have :e.on<listed.size:=oM
          simpa[this] using B3
    have hnb:∀z,listed.getD z true=false->((bx ops).toList.getD i 0).testBit z=true->False:=by
      intro z hz hb
      have h3:=tq i o ho (fun e he hb=>fG e (by simpa using he) hb) z hb
      rcases ch z listed.size with q|q
      · simp[q] at h3 hz
        rw[hz] at h3;cases h3
      · simp[b8 q] at h3
    have fO:∀z,(listed.setIfInBounds i true).getD z true=if z=i then true else listed.getD z true:=by
      intro z
      simp only[aR]
      by_cases e:z=i
      · subst e;rw[if_pos rfl];simp[kv,Ac]
      · rw[if_neg e,cE oM]
    have qW:∀{G':Gh}{E':Env}{s':AS}{a':Act}{w':World},G.le G'->
        (((listed.setIfInBounds i true).getD x true=false∧(listed.setIfInBounds i true).getD y true=false∧oZ P Γ N ops ((yc π1 (listed.setIfInBounds i true)).map (lC ops mk)) K E' s'∧oZ P Γ N ops ((yc π2 (listed.setIfInBounds i true)).map (lC ops mk)) K E' s')∨
          ∃π u v,Az ops (bx ops).toList mk u v π=true∧(listed.setIfInBounds i true).getD u true=true∧oZ P Γ N ops ((yc π (listed.setIfInBounds i true)).map (lC ops mk)) K E' s')->Rel Γ N G' E' s' a' w'->wpAnyIn (yq rd) 0 P .any ops Q fuel (listed.setIfInBounds i true) a' w':=by
      intro G' E' s' a' w' hle g1 xo
      refine ih (listed.setIfInBounds i true) (by simpa using kv) ?_ ?_ g1 xo (fun ya mW mb CX z8 k1 k2 k3=>hq ya mW mb CX z8 (hle.trans k1) k2 k3)
      · rw[q2]
        rw[q1] at hlen
        simp at hlen⊢
        omega
      · intro j oj Ad hj e he hb
        by_cases Hk:j=i
        · subst Hk
          rw[ho] at Ad;cases Ad
          exact getD_set_true (fG e (by simpa using he) hb)
        · rw[getD_set_ne true (bQ Hk)] at hj
          exact getD_set_true (mQ j oj Ad hj e he hb)
    have lJ:lC ops mk i=(o,mk i):=by simp[lC,ho]
    -- a list, with the place i taken out of it
    have pL:∀{π:List Nat}{u v:Nat},Az ops (bx ops).toList mk u v π=true->(v≠i∨listed.getD u true=true)->∃L1 L2,yc π listed=L1++i::L2∧yc π (listed.setIfInBounds i true)=L1++L2∧
        ∀z∈L1.map (lC ops mk),jb ops z.1 o∧z.2.free (mk i)=true:=by
      intro π u v hπ hv
      simp only[Az,aw,aB] at hπ
      have him:i∈π:=by
        have:=hπ.1.2 i (by simpa using Ac)
        simpa using this
      obtain⟨L1,L2,w1,w2,w3⟩:=On (R:=okS ops (bx ops).toList mk u v) oM h0 hπ.1.1 him
      refine⟨L1,L2,w1,w2,fun z hz=>?_⟩
      obtain⟨j,hj,rfl⟩:=List.mem_map.1 hz
      obtain⟨j1,j2,j3⟩:=w3 j hj
      rcases RY ho j1 with k|k|⟨k1,k2⟩
      · exact(hnb j j3 k).elim
      · exact k
      · rcases hv with hv|hv
        · exact absurd k2.symm hv
        · rw[k1,hv] at j3;cases j3
    have MP:Az ops (bx ops).toList mk x y π1=true:=by simp only[Az,aw];exact XE
    -- the place i taken first, in one list
    have gN:∀{π:List Nat}{u v:Nat},Az ops (bx ops).toList mk u v π=true->(v≠i∨listed.getD u true=true)->oZ P Γ N ops ((yc π listed).map (lC ops mk)) K E s->
        AX P Γ N ops [o] (oZ P Γ N ops ((yc π (listed.setIfInBounds i true)).map (lC ops mk)) K) E s∧
        ((mk i).gb=false->(∀d,o.dst=some d->d<N)∧∃v,SV P Γ ops (mk i) o E s v∧oZ P Γ N ops ((yc π (listed.setIfInBounds i true)).map (lC ops mk)) K (eR E o.dst v) s):=by
      intro π u v hπ hv h
      obtain⟨L1,L2,w1,w2,w3⟩:=pL hπ hv
      rw[w1,aH,aG,lJ] at h
      rw[w2,aH]
      cases hf:(mk i).gb with
      |false=>
        obtain⟨hd,v,hv⟩:=J4 hf _ w3 h hr
        have h1:=ss hf _ w3 hv h
        refine⟨HO (m:=mk i) ?_,fun _=>⟨hd,v,hv,h1⟩⟩
        simp only[oZ,hf,ar,if_false]
        exact⟨hd,v,hv,h1⟩
      |true=>
        have hme:mk i=.yb:=by
          cases hm:mk i with
          |yb=>rfl
          |val=>rw[hm] at hf;cases hf
          |LQ u=>rw[hm] at hf;cases hf
          |all u=>rw[hm] at hf;cases hf
        rw[hme] at h w3
        exact⟨wQ _ w3 h,fun e=>by cases e⟩
    rcases hI with⟨hx,hy,r1,r2⟩|⟨π,u,v,hπ,hu,r1⟩
    · have YQ:¬ops.size<=x:=by
        intro q
        rw[aR,b8 oM] at hx
        cases hx
      rcases RZ with q|q
      · exact absurd q YQ
      simp only[aw,bne_iff_ne,aB,decide_eq_true_eq] at q
      obtain⟨⟨⟨⟨⟨⟨o2,hxy⟩,ex⟩,ey⟩,_⟩,_⟩,si⟩:=q
      by_cases ix:i=x
      · subst ix
        exact l9 (L:=[]) ho (gN MP (.inl (bQ hxy)) r1).1 hr fun G' E' s' a' w' k1 k2 k3=>qW k1 (.inr ⟨π1,i,y,MP,by rw[fO,if_pos rfl],k3⟩) k2
      by_cases iy:i=y
      · subst iy
        exact l9 (L:=[]) ho (gN o2 (.inl hxy) r2).1 hr fun G' E' s' a' w' k1 k2 k3=>qW k1 (.inr ⟨π2,i,x,o2,by rw[fO,if_pos rfl],k3⟩) k2
      cases hf:(mk i).gb with
      |true=>
        have:=si i (by simpa using Ac)
        simp only[hf,Bool.not_true,Bool.false_or,cp,beq_iff_eq] at this
        rcases this with(k|k)|k
        · exact absurd k ix
        · exact absurd k iy
        · exact(hnb x hx k).elim
      |false=>
        obtain⟨hd,v1,hv1,g1⟩:=(gN MP (.inl (bQ iy)) r1).2 hf
        obtain⟨_,v2,hv2,g2⟩:=(gN o2 (.inl (bQ ix)) r2).2 hf
        obtain rfl:=Gq hv1 hv2
        have hX:oZ P Γ N ops [(o,mk i)] (fun E' s'=>oZ P Γ N ops ((yc π1 (listed.setIfInBounds i true)).map (lC ops mk)) K E' s'∧oZ P Γ N ops ((yc π2 (listed.setIfInBounds i true)).map (lC ops mk)) K E' s') E s:=by
          simp only[oZ,hf,ar,if_false]
          exact⟨hd,v1,hv1,g1,g2⟩
        exact l9 (L:=[]) ho (HO hX) hr fun G' E' s' a' w' k1 k2 k3=>qW k1 (.inl ⟨by rw[fO,if_neg (bQ ix)];exact hx,by rw[fO,if_neg (bQ iy)];exact hy,k3.1,k3.2⟩) k2
    · exact l9 (L:=[]) ho (gN hπ (.inr hu) r1).1 hr fun G' E' s' a' w' k1 k2 k3=>qW k1 (.inr ⟨π,u,v,hπ,by rw[fO];split;rfl;exact hu,k3⟩) k2
theorem yM{E:Env}{Q:Exit->Env->AS->Prop}(hm:P.follows .mixedOrders=true){mk:Nat->SM}{x y:Nat}{π1 π2:List Nat}{id:Nat}(mR:Ds ops mk x y π1 π2=true)
    (h1:oZ P Γ N ops (π1.map (lC ops mk)) (fun E' s'=>Q .normal E' s') E s) (h2:x<ops.size->oZ P Γ N ops (π2.map (lC ops mk)) (fun E' s'=>Q .normal E' s') E s):fY P Γ N (.region id ops true) Q E s:=by
  intro G a w hr;refine wpIn_region_any hm ?_;have xo:Rel Γ N G E s a w.drew:=⟨hr.st.drew,hr.size,hr.tmps,hr.defers⟩;have lr:∀i,(Array.replicate ops.size false).getD i true=decide (ops.size<=i):=by
    intro i;rw[Array.getD_eq_getD_getElem?,Array.getElem?_replicate];by_cases h:i<ops.size
    · rw[if_pos h,decide_eq_false (by omega)];rfl
    · rw[if_neg h,decide_eq_true (by omega)];rfl
  have hlen:(left ops (Array.replicate ops.size false)).length<=ops.size:=by
    unfold left;exact Nat.le_trans (List.length_filter_le _ _) (by simp)
  have xfP:=mR;simp only[Ds,Bool.and_eq_true,Bool.or_eq_true,decide_eq_true_eq,Az,List.all_eq_true] at mR;obtain⟨⟨_,hp1⟩,RZ⟩:=mR;have key:∀{π:List Nat},(∀i∈π,i<ops.size)->oZ P Γ N ops (π.map (lC ops mk)) (fun E' s'=>Q .normal E' s') E s->
      oZ P Γ N ops ((yc π (Array.replicate ops.size false)).map (lC ops mk)) (fun E' s'=>Q .normal E' s'∧∀i,i∉fT ops.toList->E' i=E i) E s:=by
    intro π fB h;have e:yc π (Array.replicate ops.size false)=π:=by
      unfold yc;rw[List.filter_eq_self];intro i hi;have:=fB i hi;rw[lr,decide_eq_false (by omega)];rfl
    rw[e];refine vn _ (fun E' s' k=>⟨k.1,fun i hi=>k.2 i fun hm=>hi ?_⟩) (Ay _ h);simp only[fT,List.mem_filterMap,List.mem_map] at hm⊢;obtain⟨o,⟨_,⟨j,hj,rfl⟩,rfl⟩,hd⟩:=hm;have Jw:=fB j hj;refine⟨_,?_,hd⟩;simp[lC,Jw]
  refine HP (K:=fun E' s'=>Q .normal E' s'∧∀i,i∉fT ops.toList->E' i=E i) xfP ops.size (Array.replicate ops.size false) (by simp) hlen ?_ ?_ xo ?_
  · intro i o ho hl;have :i<ops.size:=(Array.getElem?_eq_some_iff.1 ho).1;simp[this] at hl
  · by_cases hx:ops.size<=x
    · exact .inr ⟨π1,x,y,by simp only[Az,Bool.and_eq_true,List.all_eq_true,decide_eq_true_eq];exact hp1,by rw[lr,decide_eq_true hx],key hp1.2 h1⟩
    · rcases RZ with q|q
      · exact absurd q hx
      obtain⟨⟨⟨⟨⟨⟨Dt,_⟩,_⟩,_⟩,_⟩,hy⟩,_⟩:=q;exact .inl ⟨by rw[lr,decide_eq_false hx],by rw[lr,decide_eq_false (by omega)],key hp1.2 h1,key Dt.2 (h2 (by omega))⟩
  · intro G' E' s' a' w' k1 k2 k3;exact⟨G',E',s',k1,k2,k3.1,fun i hi=>k3.2 i hi⟩
def mkS(fl:List Nat)(gv:List (Nat×AV))(i:Nat):SM:=if fl.contains i=true then .yb else match po gv i with |some v=>.LQ v|none=>match po gv (i+1000) with |some v=>.all v|none=>.val
def Gr(P:Program)(Γ:Nat->List AV)(N:Nat)(ops:Array Oper)(o:Oper)(s:AS)(v:AV)(C:Env->Prop)(E:Env):Prop:=(∀d,o.dst=some d->d<N)∧MO P Γ ops o E s v∧C (eR E o.dst v)
def R3(P:Program)(Γ:Nat->List AV)(k:FuncId)(xs:List AV)(s:AS)(v:AV)(c:Prop):Prop:=dS P Γ k xs s (fun r s'=>r=v∧s'=s)∧c
theorem tC{dst:Option Tmp}{k:FuncId}{args:Array Operand}{aT:Array TypeId}{ty:TypeId}{pos:String}{after:Array Edge}{gd:Option (Nat×Bool)}{v:AV}{C:Env->Prop}{E:Env}:
    Gr P Γ N ops {dst:=dst,op:=.call {callee:=.value (.func k),args:=args,argTypes:=aT},type:=ty,pos:=pos,after:=after,guard:=gd} s v C E=
      ((∀d,dst=some d->d<N)∧uG ops {dst:=dst,op:=.call {callee:=.value (.func k),args:=args,argTypes:=aT},type:=ty,pos:=pos,after:=after,guard:=gd} E∧b7 P k=true∧R3 P Γ k (args.toList.map (ef Γ E)) s v (C (eR E dst v))):=by
  apply propext;simp only[Gr,MO,R3,fS,gG,ic,ef];constructor
  · rintro⟨h1,⟨h2,h3⟩,h4⟩;exact⟨h1,h2,h3.2.2.1,h3.2.2.2,h4⟩
  · rintro⟨h1,h2,h3,h4,h5⟩;exact⟨h1,⟨h2,rfl,rfl,h3,h4⟩,h5⟩
theorem tD{dst:Option Tmp}{T:TypeId}{x:Operand}{ty:TypeId}{pos:String}{after:Array Edge}{gd:Option (Nat×Bool)}{v:AV}{C:Env->Prop}{E:Env}:
    Gr P Γ N ops {dst:=dst,op:=.load T x,type:=ty,pos:=pos,after:=after,guard:=gd} s v C E=
      ((∀d,dst=some d->d<N)∧uG ops {dst:=dst,op:=.load T x,type:=ty,pos:=pos,after:=after,guard:=gd} E∧fS P Γ (ef Γ E) s (fun r s'=>r=v∧s'=s) (.load T x)∧C (eR E dst v)):=by
  apply propext;simp only[Gr,MO,and_assoc]
def Oo(P:Program)(Γ:Nat->List AV)(N:Nat)(ops:Array Oper)(o:Oper)(v:AV)(C:Env->Prop)(E:Env):Prop:=(∀d,o.dst=some d->d<N)∧(∀s,MO P Γ ops o E s v)∧C (eR E o.dst v)
def MQ(P:Program)(Γ:Nat->List AV)(k:FuncId)(xs:List AV)(v:AV)(c:Prop):Prop:=(∀s,dS P Γ k xs s (fun r s'=>r=v∧s'=s))∧c
theorem Oq{k:FuncId}{xs:List AV}{v:AV}{c:Prop}(h:∀s,dS P Γ k xs s (fun r s'=>r=v∧s'=s))(hc:c):MQ P Γ k xs v c:=⟨h,hc⟩
theorem tE{dst:Option Tmp}{k:FuncId}{args:Array Operand}{aT:Array TypeId}{ty:TypeId}{pos:String}{after:Array Edge}{gd:Option (Nat×Bool)}{v:AV}{C:Env->Prop}{E:Env}:
    Oo P Γ N ops {dst:=dst,op:=.call {callee:=.value (.func k),args:=args,argTypes:=aT},type:=ty,pos:=pos,after:=after,guard:=gd} v C E=
      ((∀d,dst=some d->d<N)∧uG ops {dst:=dst,op:=.call {callee:=.value (.func k),args:=args,argTypes:=aT},type:=ty,pos:=pos,after:=after,guard:=gd} E∧b7 P k=true∧MQ P Γ k (args.toList.map (ef Γ E)) v (C (eR E dst v))):=by
  apply propext;simp only[Oo,MO,MQ,fS,gG,ic,ef];constructor
  · rintro⟨h1,h2,h4⟩;exact⟨h1,(h2 ⟨fun _=>none,fun _=>none⟩).1,(h2 ⟨fun _=>none,fun _=>none⟩).2.2.2.1,fun s=>(h2 s).2.2.2.2,h4⟩
  · rintro⟨h1,h2,h3,h4,h5⟩;exact⟨h1,fun s=>⟨h2,rfl,rfl,h3,h4 s⟩,h5⟩
def J5(P:Program)(Γ:Nat->List AV)(N:Nat)(L:List Oper)(fl:List Nat)(gv:List (Nat×AV)):List Nat->(Env->AS->Prop)->Env->AS->Prop
  |[],K,E,s=>K E s
  |i::π,K,E,s=>
    if fl.contains i=true then AX P Γ N L.toArray [L.getD i default] (J5 P Γ N L fl gv π K) E s
    else match po gv i with
      |some v=>Gr P Γ N L.toArray (L.getD i default) s v (fun E=>J5 P Γ N L fl gv π K E s) E
      |none=>match po gv (i+1000) with
      |some v=>Oo P Γ N L.toArray (L.getD i default) v (fun E=>J5 P Γ N L fl gv π K E s) E
      |none=>((∀d,(L.getD i default).dst=some d->d<N)∧match eZ P Γ L.toArray (L.getD i default) E with |some v=>J5 P Γ N L fl gv π K (eR E (L.getD i default).dst v) s|none=>False)
theorem R4:∃f:Program->(Nat->List AV)->Nat->List Oper->List Nat->List (Nat×AV)->List Nat->(Env->AS->Prop)->Env->AS->Prop,f=J5:=⟨_,rfl⟩
noncomputable def XF:Program->(Nat->List AV)->Nat->List Oper->List Nat->List (Nat×AV)->List Nat->(Env->AS->Prop)->Env->AS->Prop:=cz R4
theorem axw:XF=J5:=ct R4
theorem Cy{L:List Oper}{fl:List Nat}{gv:List (Nat×AV)}{K:Env->AS->Prop}{E:Env}:XF P Γ N L fl gv [] K E s=K E s:=by rw[axw];rfl
theorem yN{L:List Oper}{fl:List Nat}{gv:List (Nat×AV)}{i:Nat}{π:List Nat}{K:Env->AS->Prop}{E:Env}:XF P Γ N L fl gv (i::π) K E s=
    if fl.contains i=true then AY P Γ N L.toArray [L.getD i default] (XF P Γ N L fl gv π K) E s
    else match po gv i with
      |some v=>Gr P Γ N L.toArray (L.getD i default) s v (fun E=>XF P Γ N L fl gv π K E s) E
      |none=>match po gv (i+1000) with
      |some v=>Oo P Γ N L.toArray (L.getD i default) v (fun E=>XF P Γ N L fl gv π K E s) E
      |none=>((∀d,(L.getD i default).dst=some d->d<N)∧match eZ P Γ L.toArray (L.getD i default) E with |some v=>XF P Γ N L fl gv π K (eR E (L.getD i default).dst v) s|none=>False):=by rw[axw,ay];rfl
theorem J6{L:List Oper}{fl:List Nat}{gv:List (Nat×AV)}{K:Env->AS->Prop}:∀(π:List Nat){E:Env}{s:AS},J5 P Γ N L fl gv π K E s->oZ P Γ N L.toArray (π.map (lC L.toArray (mkS fl gv))) K E s
  |[],E,s,h=>h
  |i::π,E,s,h=>by
    have ho:(L.toArray[i]?).getD default=L.getD i default:=(by simp[List.getD]);simp only[J5] at h;simp only[aG,oZ,lC,ho,mkS];cases hf:fl.contains i with
    |true=>
      rw[hf] at h;simp only[if_true,SM.gb] at h⊢;exact gi _ (fun E' s' hE=>J6 π hE) h
    |false=>
      rw[hf] at h;simp only[ar,if_false] at h⊢;cases hg:po gv i with
      |some v=>
        rw[hg] at h;simp only[SM.gb,ar,if_false];obtain⟨h1,h2,h3⟩:=h;exact⟨h1,v,⟨rfl,h2⟩,J6 π h3⟩
      |none=>
        rw[hg] at h;cases Vv:po gv (i+1000) with
        |some v=>
          rw[Vv] at h;simp only[Vv,SM.gb,ar,if_false];obtain⟨h1,h2,h3⟩:=h;exact⟨h1,v,⟨rfl,h2⟩,J6 π h3⟩
        |none=>
          rw[Vv] at h;simp only[Vv,SM.gb,ar,if_false];refine⟨h.1,?_⟩;have h:=h.2;split at h
          · rename_i v hv;exact⟨v,hv,J6 π h⟩
          · exact h.elim
theorem vp{E:Env}{Q:Exit->Env->AS->Prop}(hm:P.follows .mixedOrders=true)(fl:List Nat)(gv:List (Nat×AV))(π:List Nat){id:Nat}{L:List Oper}{y:Code}(mR:Ds L.toArray (mkS fl gv) L.length 0 π []=true)
    (h:∀K:Env->AS->Prop,(∀E s,fY P Γ N y Q E s->K E s)->XF P Γ N L fl gv π K E s):fY P Γ N (.seq (.region id L.toArray true) y) Q E s:=by
  refine oX (yM hm mR (J6 π ?_) (fun q=>absurd q sM));have:=h _ (fun _ _ h=>h);rwa [axw] at this
end Go.AM
