/- An abstract machine for the model and the rules of its walk, each proved sound over the model; no condition. -/
import Derived.Test.YtcjifoccjlpapaaGreatDoorAMp6
import Derived.Shelf.Spec.SlicesInsertGrow
set_option linter.unusedSimpArgs false
set_option linter.unusedVariables false
namespace Go.AM
open Go Go.RowKit
variable {P : Program} {Γ : Nat→List AV} {G : Gh} {s : AS} {w : World} {N : Nat}
theorem fi (need old : Nat) (e : TypeId) (x : Nat) (h : need < 2 ^ 63) : (Question.appendCap need old e).cut x < 2 ^ 63:=by
  have cN:=Nat.mod_lt x (show 0 < 2 ^ 63 - need by omega);simp only [Question.cut];omega
theorem vS {m : Nat} {u : Value} (gi : ∀ w',(Builtin.lenOf u).run P w' = .ok m w') {T xT e : TypeId} (hT : P.underlying T = some (.slice e)) (hx : nB P (some xT) = true)
    {z : List AV} (he : sY P e z)
    {base : Option Addr} {n cap : Nat} {olds news : List Value} (hold : ∀ w',(∀ b j,w'.cell? ⟨b,j,none⟩ = w.cell? ⟨b,j,none⟩)→(Builtin.firstCells (P.cellsOf e) n (.slice base n cap)).run P w' = .ok olds.toArray w')
    (iV : ∀ w',(∀ b j,w'.cell? ⟨b,j,none⟩ = w.cell? ⟨b,j,none⟩)→(Builtin.firstCells (P.cellsOf e) m u).run P w' = .ok news.toArray w')
    (hg : cap < n + m) (ei : (n + m) * P.bytesOf e≤2 ^ 46) (jo : n + m≤2 ^ 46) (ty : TypeId) :
    ∃ (cap' : Nat) (rest : List Value),n + m≤cap'∧cap' < 2 ^ 63∧rest.length = (cap' - (n + m)) * P.cellsOf e ∧
      (Builtin.append_ #[T,xT] ty #[.slice base n cap,u]).run P w = .ok (.slice (some ⟨w.heap.size,0,none⟩) (n + m) cap') (w.drew.alloc (.cells ((olds ++ news) ++ rest).toArray e)):=by
  obtain ⟨hz,fY,yN⟩:=he;obtain ⟨zv,C0,G7⟩:=dt hz;obtain ⟨i,hi⟩:=ev fY;have hb : P.bytesOf e = i.bytes:=(by simp [Program.bytesOf,hi]);have yO : ∀ w',(typeInfo e).run P w' = .ok i w':=(fun w'=>by simp [typeInfo,hi]);have Lo : ¬ (n + m≤cap):=(by omega);have l9 : ¬ (9223372036854775807 < (n : Int) + (m : Int)):=(by omega);have qn:=nextslicecap_le (need:=n + m) (old:=cap) hg;have mc : ¬ (2 ^ 48 < Builtin.nextslicecap (n + m) cap * i.bytes):=by
    rw [hb] at ei;have h2 : Builtin.nextslicecap (n + m) cap * i.bytes≤2 * (n + m) * i.bytes:=Nat.mul_le_mul_right _ qn;rw [Nat.mul_assoc] at h2;omega
  have yN : zv.cells.size = P.cellsOf e:=by
    rw [G7] at yN;simpa using yN
  have xe:=hold w.drew (fun b j=>rfl);have hn1:=iV w.drew (fun b j=>rfl);refine ⟨_,(Builtin.zeroCells zv.cells ((Question.appendCap (n + m) cap e).cut (w.tape w.drawn (.appendCap (n + m) cap e)) - (n + m))).toList,eZ (n + m) cap e (w.tape w.drawn (.appendCap (n + m) cap e)),fi (n + m) cap e (w.tape w.drawn (.appendCap (n + m) cap e)) (by omega),?_,?_⟩
  · simp [Builtin.zeroCells,yN]
  · have hf : (Question.appendCap (n + m) cap e).forced = false:=rfl;rcases pd hx with ⟨e',hx⟩ | hx;all_goals
      simp [Builtin.append_,run_underlying hT,aV fY,run_underlying hx,gi,Lo,yO,l9,mc,hf,xe,hn1,C0,newRow];congr 2;apply Array.ext';simp [List.append_assoc]
def jb (sz : Nat) (s : AS) (x : AV) (n : Nat) (cs : List AV) : Prop :=
  (n = 0∧cs = []∧(x = bL∨x = .sl sz 0 [] .full∨x = .sl sz 0 [] .new)) ∨
    ∃ o cap rest,x = .dj o 0 sz n cap∧s.aJ o = some (cs ++ rest)∧cs.length = n * sz∧rest.length = (cap - n) * sz∧n≤cap∧cap < 2 ^ 63
theorem eV : ∀ (ds cs rest : List AV),ds.length≤rest.length→bm (cs ++ rest) cs.length ds = cs ++ ds ++ rest.drop ds.length
  | [],cs,rest,_=>by simp [bm]
  | d :: ds,cs,rest,h=>by
    cases rest with
    | nil=>simp at h
    | cons r rest =>
      simp only [bm];have e : (cs ++ r :: rest).set cs.length d = (cs ++ [d]) ++ rest:=(by simp);have:=eV ds (cs ++ [d]) rest (by simpa using h);rw [List.length_append,List.length_singleton] at this;rw [e,this];simp
theorem vT {x y : AV} {u v : Value} {m n : Nat} {cs ds : List AV} {T xT e : TypeId} {z : List AV} (hT : P.underlying T = some (.slice e)) (hx : nB P (some xT) = true) (he : sY P e z)
    (gi : iE (P.cellsOf e) s y = some (m,ds)) (hm : m≠0) (h1 : (n + m) * P.bytesOf e≤2 ^ 46) (h2 : n + m≤2 ^ 46) (iW : ds.all AV.one = true) (hb : jb (P.cellsOf e) s x n cs)
    (kj : ar G x u) (qo : ar G y v) (hs : aU Γ G s w) (ty : TypeId) :
    ∃ G' r w' o cap rest,(Builtin.append_ #[T,xT] ty #[u,v]).run P w = .ok r w'∧G.le G'∧n + m≤cap∧cap < 2 ^ 63∧rest.length = (cap - (n + m)) * P.cellsOf e∧(s.aJ o = none∨∃ iI,x = .dj o 0 (P.cellsOf e) n iI) ∧
      aU Γ G' (s.set o (cs ++ ds ++ rest)) w'∧ar G' (.dj o 0 (P.cellsOf e) (n + m) cap) r:=by
  obtain ⟨us,hv,hlen,me,iF⟩:=yM (P:=P) gi qo hs;have Hc:=hv.length;have grow : ∀ (base : Option Addr) (cap : Nat) (vs : List Value),al G cs vs→cap < n + m →
      (∀ w',(∀ b j,w'.cell? ⟨b,j,none⟩ = w.cell? ⟨b,j,none⟩)→(Builtin.firstCells (P.cellsOf e) n (.slice base n cap)).run P w' = .ok vs.toArray w') →
      ∃ G' r w' o cap' rest,(Builtin.append_ #[T,xT] ty #[.slice base n cap,v]).run P w = .ok r w'∧G.le G'∧n + m≤cap'∧cap' < 2 ^ 63∧rest.length = (cap' - (n + m)) * P.cellsOf e∧(s.aJ o = none∨∃ iI,x = .dj o 0 (P.cellsOf e) n iI) ∧
        aU Γ G' (s.set o (cs ++ ds ++ rest)) w'∧ar G' (.dj o 0 (P.cellsOf e) (n + m) cap') r:=by
    intro base cap vs vB cN hold;obtain ⟨cap',rest,yF,ZY,GC,kQ⟩:=vS (P:=P) (w:=w) me hT hx he (base:=base) (n:=n) (cap:=cap) (olds:=vs) (news:=us) hold iF cN h1 h2 ty;obtain ⟨o,k1,k2,k3,k4⟩:=hs.drew.newObj (cs:=(cs ++ ds) ++ rest.map .v) (vs:=(vs ++ us) ++ rest) ((vB.append hv).append (al.GU rest)) e;refine ⟨_,_,_,o,cap',rest.map .v,kQ,k2,yF,ZY,by simpa using GC,.inl k1,k3,?_⟩;simp only [ar];exact ⟨_,k4,rfl,yF⟩
  rcases hb with ⟨rfl,rfl,rfl | rfl | rfl⟩ | ⟨o,cap,rest,rfl,ho,fM,lE,_,jo⟩
  · simp only [bL,ar] at kj;subst kj;exact grow none 0 [] (by simp [al]) (by omega) (fun w' _=>run_firstCells_none w' _ _ _ _)
  · simp only [ar] at kj;rcases kj with ⟨b,off,cap,vs,rfl,hl,_,C6,p8,nV⟩ | ⟨_,_,a,cap,rfl,ov⟩ | ⟨_,_,h,_⟩
    · simp only [eL] at nV;subst nV;exact grow _ 0 [] (by simp [al]) (by omega) (fun w' _=>run_firstCells_some w' _ _ _ _ _ [] (by simp) (by simp))
    · rcases ov with h | h | ⟨_,rfl⟩
      · cases h
      · cases h
      · exact grow _ 0 [] (by simp [al]) (by omega) (fun w' _=>run_firstCells_some w' _ _ _ _ _ [] (by simp) (by simp))
    · cases h
  · simp only [ar] at kj;rcases kj with ⟨b,off,cap,vs,rfl,hl,_,C6,p8,nV⟩ | ⟨_,_,a,cap,rfl,ov⟩ | ⟨_,_,h,_⟩
    · simp only [eL] at nV;obtain ⟨rfl,_⟩:=nV;exact grow _ 0 [] (by simp [al]) (by omega) (fun w' _=>run_firstCells_some w' _ _ _ _ _ [] (by simp) (by simp))
    · rcases ov with h | h | ⟨h,_⟩ <;> cases h
    · cases h
  · have JJ:=kj;simp only [ar] at kj;obtain ⟨b,oq,rfl,xb⟩:=kj;obtain ⟨b',vs,q1,q2,q3,q4⟩:=hs.aJ o _ ho;rw [oq] at q1;cases q1;have Oy:=q2.length;have vB:=q2.take cs.length;rw [List.take_left] at vB;have Ba:=vB.length;rcases Nat.lt_or_ge cap (n + m) with cN | bK
    · refine grow _ cap (vs.take cs.length) vB cN (fun w' Ox=>?_);refine run_firstCells_some w' _ _ _ _ _ _ (by omega) (fun j x hj=>?_);rw [cH,Ox];rw [List.getElem?_take] at hj;split at hj
      · rw [Nat.zero_add]; exact (q4 j x hj).1
      · cases hj
    · have J5 : m * P.cellsOf e≤(cap - n) * P.cellsOf e:=Nat.mul_le_mul_right _ (by omega);have Lp : cs.length + ds.length≤(cs ++ rest).length:=(by rw [List.length_append,lE,Hc,hlen]; omega);obtain ⟨f1,f2,f3⟩:=dK hs ho oq (off:=cs.length) Lp hv;rw [eV ds cs rest (by rw [Hc,hlen,lE]; exact J5)] at f3;rw [fM] at f1 f2 f3;have kQ:=su (P:=P) (w:=w) (n:=n) (m:=m) (cap:=cap) (off:=0) (b:=b) me hT hx he.2.1 (iF w (fun _ _=>rfl)) (by rw [Nat.zero_add]; exact f1) (by rw [Nat.zero_add]; exact f2) (jv hv iW) bK ty;rw [Nat.zero_add] at kQ;refine ⟨G,_,_,o,cap,_,kQ,.refl G,bK,jo,?_,.inr ⟨cap,rfl⟩,f3,?_⟩
      · rw [List.length_drop,lE,Hc,hlen,← Nat.sub_mul,Nat.sub_sub]
      · simp only [ar];exact ⟨b,oq,rfl,bK⟩
theorem dP {ρ : Operand→AV} {ρ' : Operand→Value} {o : Oper} {x y : Operand} {m n : Nat} {cs ds : List AV} {T xT e : TypeId} {z : List AV} (ho : o.op = .call { callee:=.builtin .append,args:=#[x,y],argTypes:=#[T,xT] })
    (hT : P.underlying T = some (.slice e)) (hx : nB P (some xT) = true) (hz : bE P e = some z) (hc : P.cellsOf e≠0) (yN : z.length = P.cellsOf e)
    (gi : iE (P.cellsOf e) s (ρ y) = some (m,ds)) (hm : m≠0) (h1 : (n + m) * P.bytesOf e≤2 ^ 46) (h2 : n + m≤2 ^ 46) (iW : ds.all AV.one = true) (hb : jb (P.cellsOf e) s (ρ x) n cs)
    (hρ : ∀ x,ar G (ρ x) (ρ' x)) (hs : aU Γ G s w) :
    cJ P Γ G (fun r s'=>∃ ob cap rest,r = .dj ob 0 (P.cellsOf e) (n + m) cap∧n + m≤cap∧cap < 2 ^ 63∧rest.length = (cap - (n + m)) * P.cellsOf e∧(s.aJ ob = none∨∃ iI,ρ x = .dj ob 0 (P.cellsOf e) n iI)∧s' = s.set ob (cs ++ ds ++ rest)) ((execOp ρ' o).run P w):=by
  obtain ⟨G',r,w',ob,cap,rest,q1,q2,q3,q3',q4,q5,q6,q7⟩:=vT hT hx ⟨hz,hc,yN⟩ gi hm h1 h2 iW hb (hρ x) (hρ y) hs o.type;rw [dG ho];simp only [builtin];exact ew ⟨G',r,w',_,_,by simpa using q1,q2,q6,q7,ob,cap,rest,rfl,q3,q3',q4,q5,rfl⟩
end Go.AM
namespace Go.AM
open Go Go.RowKit Go.Shelf
variable {rd : Option Nat} {P : Program} {Γ : Nat→List AV} {G : Gh} {s : AS} {w : World} {N : Nat}
theorem Bk {w : World} {b j : Nat} {u : Value} (h : w.cell? ⟨b,j,none⟩ = some u) : ∃ T k,w.shape? b = some (T,k)∧k≠0:=by
  unfold World.cell? at h;unfold World.shape?;split at h
  · rename_i c T f hc;simp only at hc;rw [hc];refine ⟨T,c.size,rfl,?_⟩;intro e;simp [Array.getElem?_eq_none (show c.size≤j by omega)] at h
  · cases h
end Go.AM
namespace Go.AM
open Go Go.RowKit
variable {P : Program} {Γ : Nat→List AV} {G : Gh} {s : AS} {w : World} {N : Nat}
theorem rU {k n : Nat} {T xT e : TypeId} (hT : P.underlying T = some (.slice e)) {kd : IntKind} (hx : P.underlying xT = some (.int kd)) {zv : Value} (C0 : ∀ w,(zeroValue e).run P w = .ok zv w) (fY : P.cellsOf e≠0) (yN : zv.cells.size = P.cellsOf e)
    {base : Option Addr} {cap : Nat} {olds : List Value} (hold : ∀ w',(∀ b j,w'.cell? ⟨b,j,none⟩ = w.cell? ⟨b,j,none⟩)→(Builtin.firstCells (P.cellsOf e) n (.slice base n cap)).run P w' = .ok olds.toArray w')
    (h0 : k≠0) (hg : cap < n + k) (ei : (n + k) * P.bytesOf e≤2 ^ 46) (jo : n + k≤2 ^ 46) (ty : TypeId) :
    ∃ cap' : Nat,n + k≤cap'∧cap' < 2 ^ 63 ∧
      (Builtin.append_ #[T,xT] ty #[.slice base n cap,.int .i64 k]).run P w = .ok (.slice (some ⟨w.heap.size,0,none⟩) (n + k) cap') (w.drew.alloc (.cells (olds ++ (Builtin.zeroCells zv.cells k).toList ++ (Builtin.zeroCells zv.cells (cap' - (n + k))).toList).toArray e)):=by
  obtain ⟨i,hi⟩:=ev fY;have hb : P.bytesOf e = i.bytes:=(by simp [Program.bytesOf,hi]);have yO : ∀ w',(typeInfo e).run P w' = .ok i w':=(fun w'=>by simp [typeInfo,hi]);have Lo : ¬ (n + k≤cap):=(by omega);have qn:=nextslicecap_le (need:=n + k) (old:=cap) hg;have mc : ¬ (2 ^ 48 < Builtin.nextslicecap (n + k) cap * i.bytes):=by
    rw [hb] at ei;have h2 : Builtin.nextslicecap (n + k) cap * i.bytes≤2 * (n + k) * i.bytes:=Nat.mul_le_mul_right _ qn;rw [Nat.mul_assoc] at h2;omega
  have hw : IntKind.i64.wrap (k : Int) = k:=IntWalk.i64_in _ (by omega);have tZ : ¬ ((k : Int) < 0):=(by omega);have dz : ¬ (k * P.cellsOf e = 0):=by
    intro h;rcases Nat.mul_eq_zero.1 h with h | h
    · exact h0 h
    · exact fY h
  have Bb : ¬ ((281474976710656 : Int) < (k : Int) * (i.bytes : Int)):=by
    rw [hb] at ei;have hk : k * i.bytes≤(n + k) * i.bytes:=Nat.mul_le_mul_right _ (by omega);have : ((k * i.bytes : Nat) : Int)≤((2 ^ 46 : Nat) : Int):=Int.ofNat_le.2 (by omega);rw [Int.natCast_mul] at this;omega
  have l9 : ¬ (9223372036854775807 < (n : Int) + (k : Int)):=(by omega);have xe:=hold w.drew (fun b j=>rfl);refine ⟨_,eZ (n + k) cap e (w.tape w.drawn (.appendCap (n + k) cap e)),fi (n + k) cap e (w.tape w.drawn (.appendCap (n + k) cap e)) (by omega),?_⟩;have hf : (Question.appendCap (n + k) cap e).forced = false:=rfl;simp [Builtin.append_,run_underlying hT,aV fY,run_underlying hx,asInt,asIntOf,hw,tZ,yO,Bb,l9,mc,hf,C0,newRow,dz,h0,Lo,xe];congr 2;apply Array.ext';simp
theorem tf {k n : Nat} {T xT e : TypeId} (hT : P.underlying T = some (.slice e)) {kd : IntKind} (hx : P.underlying xT = some (.int kd)) {zv : Value} (C0 : ∀ w,(zeroValue e).run P w = .ok zv w) (fY : P.cellsOf e≠0)
    {b off cap : Nat} (hc : ∀ j,j < (Builtin.zeroCells zv.cells k).toList.length→(w.cell? ⟨b,off + n * P.cellsOf e + j,none⟩).isSome = true) (hf : ∀ j,j < (Builtin.zeroCells zv.cells k).toList.length→w.frozen? ⟨b,off + n * P.cellsOf e + j,none⟩ = false)
    (h1 : ∀ v ∈ (Builtin.zeroCells zv.cells k).toList,v.oneCell' = true) (h0 : k≠0) (hg : n + k≤cap) (ei : k * P.bytesOf e≤2 ^ 46) (jo : k≤2 ^ 46) (ty : TypeId) :
    (Builtin.append_ #[T,xT] ty #[.slice (some ⟨b,off,none⟩) n cap,.int .i64 k]).run P w = .ok (.slice (some ⟨b,off,none⟩) (n + k) cap) (w.setCells b (off + n * P.cellsOf e) (Builtin.zeroCells zv.cells k).toList):=by
  obtain ⟨i,hi⟩:=ev fY;have hb : P.bytesOf e = i.bytes:=(by simp [Program.bytesOf,hi]);have yO : ∀ w',(typeInfo e).run P w' = .ok i w':=(fun w'=>by simp [typeInfo,hi]);have hw : IntKind.i64.wrap (k : Int) = k:=IntWalk.i64_in _ (by omega);have tZ : ¬ ((k : Int) < 0):=(by omega);have dz : ¬ (k * P.cellsOf e = 0):=by
    intro h;rcases Nat.mul_eq_zero.1 h with h | h
    · exact h0 h
    · exact fY h
  have Bb : ¬ ((281474976710656 : Int) < (k : Int) * (i.bytes : Int)):=by
    rw [hb] at ei;have : ((k * i.bytes : Nat) : Int)≤((2 ^ 46 : Nat) : Int):=Int.ofNat_le.2 ei;rw [Int.natCast_mul] at this;omega
  have il:=run_storeCells_cells (P:=P) b (off + n * P.cellsOf e) (Builtin.zeroCells zv.cells k).toList 0 w (by simpa using hc) (by simpa using hf) h1;simp only [Nat.add_zero] at il;simp [Builtin.append_,run_underlying hT,aV fY,run_underlying hx,asInt,asIntOf,hw,tZ,yO,Bb,C0,dz,h0,hg,cH,il]
theorem lj {ρ : Operand→AV} {ρ' : Operand→Value} {o : Oper} {x y : Operand} {k n : Nat} {cs : List AV} {T xT e : TypeId} {kd : IntKind} {z : List AV} (ho : o.op = .call { callee:=.builtin .append,args:=#[x,y],argTypes:=#[T,xT] })
    (hT : P.underlying T = some (.slice e)) (hx : P.underlying xT = some (.int kd)) (hz : bE P e = some z) (hc : P.cellsOf e≠0) (yN : z.length = P.cellsOf e) (iW : z.all AV.one = true)
    (hy : ρ y = .v (.int .i64 (k : Int))) (hk : k≠0) (h1 : (n + k) * P.bytesOf e≤2 ^ 46) (h2 : n + k≤2 ^ 46) (hb : jb (P.cellsOf e) s (ρ x) n cs) (hρ : ∀ x,ar G (ρ x) (ρ' x)) (hs : aU Γ G s w) :
    cJ P Γ G (fun r s'=>∃ ob cap rest,r = .dj ob 0 (P.cellsOf e) (n + k) cap∧n + k≤cap∧cap < 2 ^ 63∧rest.length = (cap - (n + k)) * P.cellsOf e∧(s.aJ ob = none∨∃ iI,ρ x = .dj ob 0 (P.cellsOf e) n iI) ∧
      s' = s.set ob (cs ++ ig (k * P.cellsOf e) z ++ rest)) ((execOp ρ' o).run P w):=by
  obtain ⟨zv,C0,G7⟩:=dt hz;have hzs : zv.cells.size = P.cellsOf e:=by
    rw [G7] at yN;simpa using yN
  have dz : zv.cells.toList≠[]:=by
    intro h;rw [G7,h] at yN;simp at yN;omega
  have zl : ∀ j,(Builtin.zeroCells zv.cells j).toList = (List.range (j * P.cellsOf e)).map fun i=>zv.cells.toList.toArray[i % zv.cells.toList.toArray.size]!:=by
    intro j;simp [Builtin.zeroCells,hzs]
  have zr : ∀ j,al G (ig (j * P.cellsOf e) z) (Builtin.zeroCells zv.cells j).toList:=by
    intro j;rw [zl,G7];exact lZ _ dz
  have xgx : ∀ j,(Builtin.zeroCells zv.cells j).toList.length = j * P.cellsOf e:=by
    intro j;rw [zl];simp
  have z1 : ∀ v ∈ (Builtin.zeroCells zv.cells k).toList,v.oneCell' = true:=by
    refine jv (zr k) ?_;rw [List.all_eq_true] at iW ⊢;intro c Jz;obtain ⟨i,_,rfl⟩:=List.mem_map.1 Jz;have cN : i % z.length < z.length:=Nat.mod_lt _ (by omega);have hg : z.getD (i % z.length) (.v default) = z[i % z.length]:=(by simp [List.getD,cN]);rw [hg];exact iW _ (List.getElem_mem cN)
  have qo:=hρ y;rw [hy] at qo;simp only [ar] at qo;have kj:=hρ x;have fin : ∀ G' r w' ob cap rest,(Builtin.append_ #[T,xT] o.type #[ρ' x,ρ' y]).run P w = .ok r w'→G.le G'→aU Γ G' (s.set ob (cs ++ ig (k * P.cellsOf e) z ++ rest)) w'→ar G' (.dj ob 0 (P.cellsOf e) (n + k) cap) r→n + k≤cap→cap < 2 ^ 63→rest.length = (cap - (n + k)) * P.cellsOf e →
      (s.aJ ob = none∨∃ iI,ρ x = .dj ob 0 (P.cellsOf e) n iI)→cJ P Γ G (fun r s'=>∃ ob cap rest,r = .dj ob 0 (P.cellsOf e) (n + k) cap∧n + k≤cap∧cap < 2 ^ 63∧rest.length = (cap - (n + k)) * P.cellsOf e∧(s.aJ ob = none∨∃ iI,ρ x = .dj ob 0 (P.cellsOf e) n iI) ∧
        s' = s.set ob (cs ++ ig (k * P.cellsOf e) z ++ rest)) ((execOp ρ' o).run P w):=by
    intro G' r w' ob cap rest q1 q2 q3 q4 q5 q6 q7 q8;rw [dG ho];simp only [builtin];exact ew ⟨G',r,w',_,_,by simpa using q1,q2,q3,q4,ob,cap,rest,rfl,q5,q6,q7,q8,rfl⟩
  have grow : ∀ (base : Option Addr) (cap : Nat) (vs : List Value),ρ' x = .slice base n cap→al G cs vs→cap < n + k →
      (∀ w',(∀ b j,w'.cell? ⟨b,j,none⟩ = w.cell? ⟨b,j,none⟩)→(Builtin.firstCells (P.cellsOf e) n (.slice base n cap)).run P w' = .ok vs.toArray w') →
      cJ P Γ G (fun r s'=>∃ ob cap rest,r = .dj ob 0 (P.cellsOf e) (n + k) cap∧n + k≤cap∧cap < 2 ^ 63∧rest.length = (cap - (n + k)) * P.cellsOf e∧(s.aJ ob = none∨∃ iI,ρ x = .dj ob 0 (P.cellsOf e) n iI) ∧
        s' = s.set ob (cs ++ ig (k * P.cellsOf e) z ++ rest)) ((execOp ρ' o).run P w):=by
    intro base cap vs hu vB cN hold;obtain ⟨cap',yF,GC,kQ⟩:=rU (P:=P) (w:=w) hT hx C0 hc hzs (base:=base) (n:=n) (cap:=cap) (olds:=vs) hold hk cN h1 h2 o.type;obtain ⟨ob,k1,k2,k3,k4⟩:=hs.drew.newObj (cs:=(cs ++ ig (k * P.cellsOf e) z) ++ ig ((cap' - (n + k)) * P.cellsOf e) z) (vs:=vs ++ (Builtin.zeroCells zv.cells k).toList ++ (Builtin.zeroCells zv.cells (cap' - (n + k))).toList) ((vB.append (zr k)).append (zr _)) e;refine fin _ _ _ ob cap' _ (by rw [hu,qo]; exact kQ) k2 k3 ?_ yF GC (by simp [ig]) (.inl k1);simp only [ar];exact ⟨_,k4,rfl,yF⟩
  rcases hb with ⟨rfl,rfl,LV⟩ | ⟨ob,cap,rest,hxo,eU,fM,lE,xb,jo⟩
  · rcases LV with LV | LV | LV
    · rw [LV] at kj;simp only [bL,ar] at kj;exact grow none 0 [] kj (by simp [al]) (by omega) (fun w' _=>run_firstCells_none w' _ _ _ _)
    · rw [LV] at kj;simp only [ar] at kj;rcases kj with ⟨b,off,cap,vs,hu,hl,_,C6,p8,nV⟩ | ⟨_,_,a,cap,hu,ov⟩ | ⟨_,_,h,_⟩
      · simp only [eL] at nV;subst nV;exact grow _ 0 [] hu (by simp [al]) (by omega) (fun w' _=>run_firstCells_some w' _ _ _ _ _ [] (by simp) (by simp))
      · rcases ov with h | h | ⟨_,rfl⟩
        · cases h
        · cases h
        · exact grow _ 0 [] hu (by simp [al]) (by omega) (fun w' _=>run_firstCells_some w' _ _ _ _ _ [] (by simp) (by simp))
      · cases h
    · rw [LV] at kj;simp only [ar] at kj;rcases kj with ⟨b,off,cap,vs,hu,hl,_,C6,p8,nV⟩ | ⟨_,_,a,cap,hu,ov⟩ | ⟨_,_,h,_⟩
      · simp only [eL] at nV;obtain ⟨rfl,_⟩:=nV;exact grow _ 0 [] hu (by simp [al]) (by omega) (fun w' _=>run_firstCells_some w' _ _ _ _ _ [] (by simp) (by simp))
      · rcases ov with h | h | ⟨h,_⟩ <;> cases h
      · cases h
  · have JJ:=kj;rw [hxo] at kj;simp only [ar] at kj;obtain ⟨b,oq,hu,_⟩:=kj;obtain ⟨b',vs,q1,q2,q3,q4⟩:=hs.aJ ob _ eU;rw [oq] at q1;cases q1;have vB:=q2.take cs.length;rw [List.take_left] at vB;have Ba:=vB.length;rcases Nat.lt_or_ge cap (n + k) with cN | bK
    · refine grow _ cap (vs.take cs.length) hu vB cN (fun w' Ox=>?_);refine run_firstCells_some w' _ _ _ _ _ _ (by omega) (fun j x hj=>?_);rw [cH,Ox];rw [List.getElem?_take] at hj;split at hj
      · rw [Nat.zero_add]; exact (q4 j x hj).1
      · cases hj
    · have J5 : k * P.cellsOf e≤(cap - n) * P.cellsOf e:=Nat.mul_le_mul_right _ (by omega);have Hc : (ig (k * P.cellsOf e) z).length = k * P.cellsOf e:=(by simp [ig]);obtain ⟨f1,f2,f3⟩:=dK hs eU oq (off:=cs.length) (ds:=ig (k * P.cellsOf e) z) (by rw [List.length_append,lE,Hc]; omega) (zr k);rw [eV _ cs rest (by rw [Hc,lE]; exact J5)] at f3;rw [fM] at f1 f2 f3;have U6 : k * P.bytesOf e≤2 ^ 46:=Nat.le_trans (Nat.mul_le_mul_right _ (by omega)) h1;have kQ:=tf (P:=P) (w:=w) (k:=k) (n:=n) hT hx C0 hc (b:=b) (off:=0) (cap:=cap) (by rw [Nat.zero_add]; exact f1) (by rw [Nat.zero_add]; exact f2) z1 hk bK U6 (by omega) o.type;rw [Nat.zero_add] at kQ;refine fin G _ _ ob cap _ (by rw [hu,qo]; exact kQ) (.refl G) f3 ?_ bK jo ?_ (.inr ⟨cap,hxo⟩)
      · simp only [ar];exact ⟨b,oq,rfl,bK⟩
      · rw [List.length_drop,lE,Hc,← Nat.sub_mul,Nat.sub_sub]
end Go.AM
namespace Go.AM
open Go Go.RowKit
variable {rd : Option Nat} {P : Program} {Γ : Nat→List AV} {G : Gh} {s : AS} {w : World} {N : Nat}
theorem iv.append {a b c d : List AV} (h : iv Γ s a c) (k : iv Γ s b d) : iv Γ s (a ++ b) (c ++ d):=by
  intro G w us hs hv;have hl:=hv.length;have h1:=hv.take a.length;have h2:=hv.drop a.length;rw [List.take_left] at h1;rw [List.drop_left] at h2;have:=al.append (h G w _ hs h1) (k G w _ hs h2);rwa [List.take_append_drop] at this
theorem View.xbf {o sz n cap : Nat} {cs rest ds : List AV} (ho : s.aJ o = some (cs ++ rest)) (hl : cs.length = n * sz) (h : iv Γ s cs ds) : View Γ s (.dj o 0 sz n cap) (.sl sz n ds .any):=by
  intro G w u hs hv;simp only [ar] at hv ⊢;obtain ⟨b,h1,h2,h3⟩:=hv;obtain ⟨b',vs,k1,k2,k3,k4⟩:=hs.aJ o _ ho;rw [h1] at k1;cases k1;have k5:=k2.take cs.length;rw [List.take_left] at k5;have h7:=h G w _ hs k5;refine .inl ⟨b,0,cap,_,h2,by rw [h7.length,← k5.length,hl],h3,h7,fun j u hj=>?_,trivial⟩;rw [Nat.zero_add];rw [List.getElem?_take] at hj;split at hj
  · exact (k4 j u hj).1
  · cases hj
theorem View.empty {sz : Nat} {sp : Sp} (h : sp = .full∨sp = .new) : View Γ s (.sl sz 0 [] sp) (.sl sz 0 [] .any):=by
  intro G w u hs hv;simp only [ar] at hv ⊢;rcases hv with ⟨b,off,cap,vs,h1,h2,h3,h4,h5,h6⟩ | ⟨_,_,a,cap,h1,_⟩ | ⟨_,_,h1,_⟩
  · simp only [al] at h4;subst h4;exact .inl ⟨b,off,cap,[],h1,h2,h3,by simp [al],(fun j u hj=>by cases hj),trivial⟩
  · exact .inr (.inl ⟨trivial,trivial,a,cap,h1,by simp⟩)
  · rcases h with rfl | rfl <;> cases h1
def bf (Γ : Nat→List AV) (s : AS) (x : AV) (s' : AS) (x' : AV) : Prop:=∀ G w u,aU Γ G s w→ar G x u→∃ G',G.le G'∧aU Γ G' s' w∧ar G' x' u
theorem bf.refl (x : AV) : bf Γ s x s x:=fun G _ _ hs hv=>⟨G,.refl G,hs,hv⟩
theorem bf.trans {s1 s2 s3 : AS} {x y z : AV} (h : bf Γ s1 x s2 y) (k : bf Γ s2 y s3 z) : bf Γ s1 x s3 z:=by
  intro G w u hs hv;obtain ⟨G1,h1,h2,h3⟩:=h G w u hs hv;obtain ⟨G2,k1,k2,k3⟩:=k G1 w u h2 h3;exact ⟨G2,h1.trans k1,k2,k3⟩
theorem bf.aL {x y : AV} (h : x.aL y) : bf Γ s x s y:=fun G _ _ hs hv=>⟨G,.refl G,hs,h _ _ hv⟩
theorem bf.le {s' : AS} (x : AV) (h : s'.le s) : bf Γ s x s' x:=fun G _ _ hs hv=>⟨G,.refl G,hs.mono h,hv⟩
theorem aU.QH {o : Nat} {cs cs' : List AV} (h : aU Γ G s w) (ho : s.aJ o = some cs) (hw : ∀ vs,al G cs vs→al G cs' vs) : aU Γ G (s.set o cs') w:=by
  refine ⟨h.ro,?_,h.dI,h.inj,h.own,h.dy,h.cB,h.dn,h.cG,h.below,h.others,h.base,h.jm,h.soft⟩;intro o' ds hd;by_cases e : o' = o
  · subst e;rw [AS.aj] at hd;cases hd;obtain ⟨b,vs,h1,h2,h3,h4⟩:=h.aJ o' cs ho;exact ⟨b,vs,h1,hw vs h2,h3,h4⟩
  · rw [AS.aR _ e] at hd;exact h.aJ o' ds hd
theorem bf.cells {O : Nat} {A B : List AV} {a b : AV} (x : AV) (hO : s.aJ O = some (A ++ a :: B)) (hw : a.aL b) : bf Γ s x (s.set O (A ++ b :: B)) x:=by
  intro G w u hs hv;refine ⟨G,.refl G,hs.QH hO (fun vs h=>?_),hv⟩;have hl:=h.length;have h1:=h.take A.length;have h2:=h.drop A.length;rw [List.take_left] at h1;rw [List.drop_left] at h2;generalize hd : vs.drop A.length = ds at h2;simp only [al] at h2;obtain ⟨u1,us,rfl,h3,h4⟩:=h2;rw [← List.take_append_drop A.length vs,hd];exact h1.append (by simp only [al]; exact ⟨u1,us,rfl,hw _ _ h3,h4⟩)
theorem bf.inner {O o sz n cap : Nat} {A B cs rest : List AV} (x : AV) (hO : s.aJ O = some (A ++ .dj o 0 sz n cap :: B)) (ho : s.aJ o = some (cs ++ rest)) (dz : O≠o) (hl : cs.length = n * sz) :
    bf Γ s x ((s.drop o).set O (A ++ .sl sz n cs .any :: B)) x:=by
  intro G w u hs hv;obtain ⟨b,vs,h1,h2,h3,h4,h5⟩:=hs.freeze ho;refine ⟨_,h3,h5.QH (cs:=A ++ .dj o 0 sz n cap :: B) (by rw [AS.lP,eG _ _ dz]; exact hO) (fun us h=>?_),ar.mono h3 _ _ hv⟩;have k1:=h.take A.length;have k2:=h.drop A.length;rw [List.take_left] at k1;rw [List.drop_left] at k2;generalize hd : us.drop A.length = ds at k2;simp only [al] at k2;obtain ⟨u1,us1,rfl,k3,k4⟩:=k2;rw [← List.take_append_drop A.length us,hd];refine k1.append ?_;simp only [al];refine ⟨u1,us1,rfl,?_,k4⟩;simp only [ar] at k3 ⊢;obtain ⟨b',q1,q2,q3⟩:=k3;rw [h3.obj _ _ h1] at q1;cases q1;have q5:=h2.take cs.length;rw [List.take_left] at q5;refine .inl ⟨b,0,cap,_,q2,hl,q3,al.mono h3 _ _ q5,?_,trivial⟩;intro j y hj;rw [List.getElem?_take] at hj;split at hj
  · exact h4 j y hj
  · cases hj
theorem bf.outer {o sz n cap : Nat} {cs rest : List AV} (ho : s.aJ o = some (cs ++ rest)) (hl : cs.length = n * sz) : bf Γ s (.dj o 0 sz n cap) (s.drop o) (.sl sz n cs .any):=by
  intro G w u hs hv;obtain ⟨b,vs,h1,h2,h3,h4,h5⟩:=hs.freeze ho;refine ⟨_,h3,h5,?_⟩;simp only [ar] at hv ⊢;obtain ⟨b',q1,q2,q3⟩:=hv;rw [h1] at q1;cases q1;have q5:=h2.take cs.length;rw [List.take_left] at q5;refine .inl ⟨b,0,cap,_,q2,hl,q3,al.mono h3 _ _ q5,?_,trivial⟩;intro j y hj;rw [List.getElem?_take] at hj;split at hj
  · exact h4 j y hj
  · cases hj
theorem ah.settle {f : FuncId} {args : List AV} {Q R : AV→AS→Prop} (h : ah P Γ f args s Q) (k : ∀ r s1,Q r s1→∃ s2 r2,bf Γ s1 r s2 r2∧R r2 s2) : ah P Γ f args s R:=by
  intro G w vs hs ha;refine (h G w vs hs ha).mono ?_;rintro e w' ⟨G',r,v,s',rfl,h1,h2,h3,h4⟩;obtain ⟨s2,r2,k1,k2⟩:=k r s' h4;obtain ⟨G2,q1,q2,q3⟩:=k1 G' w' v h2 h3;exact ⟨G2,r2,v,s2,rfl,h1.trans q1,q2,q3,k2⟩
theorem fw.settle {E : Env} {d : Nat} {x x' : AV} {s' : AS} (hE : E d = x) (h : bf Γ s x s' x') : fw Γ N E s (aG E d x') s':=by
  intro G a w hr;have hd:=hr.tmps d;rw [hE] at hd;obtain ⟨G',h1,h2,h3⟩:=h G w _ hr.st hd;refine ⟨G',h1,h2,hr.size,fun i=>?_,hr.defers.trans h1.df.symm⟩;simp only [aG];split
  · rename_i e;subst e;exact h3
  · exact ar.mono h1 _ _ (hr.tmps i)
theorem zy {c : Code} {Q : Exit→Env→AS→Prop} {E : Env} {d : Nat} {x x' : AV} {s' : AS} (hd : d ∈ writes c) (hE : E d = x) (h : bf Γ s x s' x') (k : cI P Γ N c Q (aG E d x') s') : cI P Γ N c Q E s:=by
  intro G a w hr;obtain ⟨G1,h1,h2⟩:=fw.settle hE h G a w hr;refine wpIn_mono (k G1 a w h2) ?_;rintro e a' w' ⟨G2,E2,s2,q1,q2,q3,q4⟩;exact ⟨G2,E2,s2,h1.trans q1,q2,q3,fun i hi=>by rw [q4 i hi]; exact eG _ _ (fun e=>hi (by rw [e]; exact hd))⟩
theorem nG {E : Env} {Q : Exit→Env→AS→Prop} {id : Nat} {L2 : List Oper} {o1 o2 o : Oper} {code : Code} (hg : o.guard = none) (hd : ∀ d,o.dst = some d→d < N)
    (h : ∀ ops,AY P Γ N ops [o1,o2] (fun E1 s1=>∃ K1 : AV→AS→Prop,(∀ G a w,Rel Γ N G E1 s1 a w→cJ P Γ G K1 ((execOp a.eval o).run P w)) ∧
      ∀ r s2,K1 r s2→AY P Γ N ops L2 (fun E' s'=>cI P Γ N code Q E' s') (bD E1 o.dst r) s2) E s) :
    cI P Γ N (.seq (.region id (o1 :: o2 :: o :: L2).toArray false) code) Q E s :=
  qx [o1,o2] L2 hg hd (h _)
theorem mz {E : Env} {Q : Exit→Env→AS→Prop} {id : Nat} (L1 L2 : List Oper) {o : Oper} (hg : o.guard = none) (hd : ∀ d,o.dst = some d→d < N)
    (h : AY P Γ N (L1 ++ o :: L2).toArray L1 (fun E1 s1=>∃ K1 : AV→AS→Prop,(∀ G a w,Rel Γ N G E1 s1 a w→cJ P Γ G K1 ((execOp a.eval o).run P w)) ∧
      ∀ r s2,K1 r s2→AY P Γ N (L1 ++ o :: L2).toArray L2 (fun E' s'=>Q .normal E' s') (bD E1 o.dst r) s2) E s) :
    cI P Γ N (.region id (L1 ++ o :: L2).toArray false) Q E s:=by
  rw [ay] at h;intro G a w hr;refine wpIn_region ?_;have bT : ∀ ops : Array Oper,(List.range ops.size).map (ops[·]?) = ops.toList.map some:=by
    intro ops;apply List.ext_getElem?;intro i;simp only [List.getElem?_map];by_cases hi : i < ops.size
    · simp [hi]
    · simp [hi]
  have kU:=bT (L1 ++ o :: L2).toArray;generalize hI : List.range (L1 ++ o :: L2).toArray.size = I at kU;have h1 : (I.take L1.length).map ((L1 ++ o :: L2).toArray[·]?) = L1.map some:=by
    rw [List.map_take,kU]; simp
  have h2 : (I.drop L1.length).map ((L1 ++ o :: L2).toArray[·]?) = (o :: L2).map some:=by
    rw [List.map_drop,kU]; simp
  rw [← List.take_append_drop L1.length I];generalize I.take L1.length = I1 at h1;generalize I.drop L1.length = I2 at h2;cases I2 with
  | nil=>simp at h2
  | cons i I2 =>
    simp only [List.map_cons,List.cons.injEq] at h2;refine dv L1 I1 (i :: I2) h1 (dD _ h) hr ?_;rintro G1 E1 s1 a1 w1 kV nF ⟨⟨K1,nf,hk⟩,zp⟩;rw [wpOpsIn_cons];simp only [wpOpIn,h2.1];rw [if_pos (du hg)];refine (Oper.jx nF hd (nf G1 a1 w1 nF) ?_);intro G3 r s3 a3 w3 N6 sF hK;refine kA L2 I2 h2.2 (dD _ (hk r s3 hK)) sF ?_;rintro G4 E4 s4 a4 w4 Sa Ci ⟨KR,Hs⟩;refine ⟨G4,E4,s4,kV.trans (N6.trans Sa),Ci,KR,?_⟩;intro i hi;have mem : ∀ L : List Oper,i ∈ bP L↔∃ o ∈ L,o.dst = some i:=(fun L=>by simp [bP,List.mem_filterMap]);have aO : ¬ ∃ o' ∈ L1 ++ o :: L2,o'.dst = some i:=fun hm=>hi ((mem _).2 hm);have m1 : i ∉ bP L1:=fun hm=>aO (by obtain ⟨o,k1,k2⟩:=(mem _).1 hm; exact ⟨o,by simp [k1],k2⟩);have m2 : i ∉ bP L2:=fun hm=>aO (by obtain ⟨o,k1,k2⟩:=(mem _).1 hm; exact ⟨o,by simp [k1],k2⟩);have m3 : o.dst≠some i:=fun e=>aO ⟨o,by simp,e⟩;rw [Hs i m2,cq m3,zp i m1]
theorem xU {E : Env} {Q : Exit→Env→AS→Prop} {id : Nat} (L1 L2 : List Oper) {o1 o : Oper} (IB : o1.guard = none) (Fb : ∀ d,o1.dst = some d→d < N) (hg : o.guard = none) (hd : ∀ d,o.dst = some d→d < N)
    (h : AY P Γ N (L1 ++ o1 :: o :: L2).toArray L1 (fun E1 s1=>∃ (X : AV) (K1 : AV→AS→Prop),
      (∀ G a w,Rel Γ N G E1 s1 a w→∃ G1 v w1,(execOp a.eval o1).run P w = .ok (.value v) w1∧G.le G1∧aU Γ G1 s1 w1∧ar G1 X v∧∀ a1,a1 = a.put o1.dst v→Rel Γ N G1 (bD E1 o1.dst X) s1 a1 w1→cJ P Γ G1 K1 ((execOp a1.eval o).run P w1)) ∧
      ∀ r s2,K1 r s2→AY P Γ N (L1 ++ o1 :: o :: L2).toArray L2 (fun E' s'=>Q .normal E' s') (bD (bD E1 o1.dst X) o.dst r) s2) E s) :
    cI P Γ N (.region id (L1 ++ o1 :: o :: L2).toArray false) Q E s:=by
  rw [ay] at h;intro G a w hr;refine wpIn_region ?_;have bT : ∀ ops : Array Oper,(List.range ops.size).map (ops[·]?) = ops.toList.map some:=by
    intro ops;apply List.ext_getElem?;intro i;simp only [List.getElem?_map];by_cases hi : i < ops.size
    · simp [hi]
    · simp [hi]
  have kU:=bT (L1 ++ o1 :: o :: L2).toArray;generalize hI : List.range (L1 ++ o1 :: o :: L2).toArray.size = I at kU;have h1 : (I.take L1.length).map ((L1 ++ o1 :: o :: L2).toArray[·]?) = L1.map some:=by
    rw [List.map_take,kU]; simp
  have h2 : (I.drop L1.length).map ((L1 ++ o1 :: o :: L2).toArray[·]?) = (o1 :: o :: L2).map some:=by
    rw [List.map_drop,kU]; simp
  rw [← List.take_append_drop L1.length I];generalize I.take L1.length = I1 at h1;generalize I.drop L1.length = I2 at h2;cases I2 with
  | nil=>simp at h2
  | cons i I2 =>
    cases I2 with
    | nil=>simp at h2
    | cons i2 I2 =>
    simp only [List.map_cons,List.cons.injEq] at h2;refine dv L1 I1 (i :: i2 :: I2) h1 (dD _ h) hr ?_;rintro G1 E1 s1 a1 w1 kV nF ⟨⟨X,K1,nf,hk⟩,zp⟩;obtain ⟨G2,v,w2,r1,r2,r3,r4,Sn⟩:=nf G1 a1 w1 nF;rw [wpOpsIn_cons];simp only [wpOpIn,h2.1];rw [if_pos (du IB)];refine ⟨fun _ _=>trivial,?_⟩;rw [Oper.semAt_eq _ _ _ (RZ r1)];rw [r1];simp only [Oper.uponIn];have qz:=nF.put r2 r3 r4 Fb;have xbg:=Sn _ rfl qz;rw [wpOpsIn_cons];simp only [wpOpIn,h2.2.1];rw [if_pos (du hg)];refine (Oper.jx qz hd xbg ?_);intro G3 r s3 a3 w3 N6 sF hK;refine kA L2 I2 h2.2.2 (dD _ (hk r s3 hK)) sF ?_;rintro G4 E4 s4 a4 w4 Sa Ci ⟨KR,Hs⟩;refine ⟨G4,E4,s4,kV.trans (r2.trans (N6.trans Sa)),Ci,KR,?_⟩;intro i hi;have mem : ∀ L : List Oper,i ∈ bP L↔∃ o ∈ L,o.dst = some i:=(fun L=>by simp [bP,List.mem_filterMap]);have aO : ¬ ∃ o' ∈ L1 ++ o1 :: o :: L2,o'.dst = some i:=fun hm=>hi ((mem _).2 hm);have m1 : i ∉ bP L1:=fun hm=>aO (by obtain ⟨o,k1,k2⟩:=(mem _).1 hm; exact ⟨o,by simp [k1],k2⟩);have m2 : i ∉ bP L2:=fun hm=>aO (by obtain ⟨o,k1,k2⟩:=(mem _).1 hm; exact ⟨o,by simp [k1],k2⟩);have m3 : o.dst≠some i:=fun e=>aO ⟨o,by simp,e⟩;have m4 : o1.dst≠some i:=fun e=>aO ⟨o1,by simp,e⟩;rw [Hs i m2,cq m3,cq m4,zp i m1]
theorem qC {E : Env} {Q : Exit→Env→AS→Prop} {id : Nat} {L2 : List Oper} {o1 o2 o3 o4 o : Oper} (hg : o.guard = none) (hd : ∀ d,o.dst = some d→d < N)
    (h : ∀ ops,AY P Γ N ops [o1,o2,o3,o4] (fun E1 s1=>∃ K1 : AV→AS→Prop,(∀ G a w,Rel Γ N G E1 s1 a w→cJ P Γ G K1 ((execOp a.eval o).run P w)) ∧
      ∀ r s2,K1 r s2→AY P Γ N ops L2 (fun E' s'=>Q .normal E' s') (bD E1 o.dst r) s2) E s) :
    cI P Γ N (.region id (o1 :: o2 :: o3 :: o4 :: o :: L2).toArray false) Q E s :=
  mz [o1,o2,o3,o4] L2 hg hd (h _)
theorem xV {E : Env} {Q : Exit→Env→AS→Prop} {id : Nat} {L2 : List Oper} {a1 a2 a3 a4 a5 a6 a7 o1 o : Oper} (IB : o1.guard = none) (Fb : ∀ d,o1.dst = some d→d < N) (hg : o.guard = none) (hd : ∀ d,o.dst = some d→d < N)
    (h : ∀ ops,AY P Γ N ops [a1,a2,a3,a4,a5,a6,a7] (fun E1 s1=>∃ (X : AV) (K1 : AV→AS→Prop),
      (∀ G a w,Rel Γ N G E1 s1 a w→∃ G1 v w1,(execOp a.eval o1).run P w = .ok (.value v) w1∧G.le G1∧aU Γ G1 s1 w1∧ar G1 X v∧∀ b1,b1 = a.put o1.dst v→Rel Γ N G1 (bD E1 o1.dst X) s1 b1 w1→cJ P Γ G1 K1 ((execOp b1.eval o).run P w1)) ∧
      ∀ r s2,K1 r s2→AY P Γ N ops L2 (fun E' s'=>Q .normal E' s') (bD (bD E1 o1.dst X) o.dst r) s2) E s) :
    cI P Γ N (.region id (a1 :: a2 :: a3 :: a4 :: a5 :: a6 :: a7 :: o1 :: o :: L2).toArray false) Q E s :=
  xU [a1,a2,a3,a4,a5,a6,a7] L2 IB Fb hg hd (h _)
end Go.AM
namespace Go.AM
open Go Go.RowKit
variable {rd : Option Nat} {P : Program} {Γ : Nat→List AV} {G : Gh} {s : AS} {w : World} {N : Nat}
theorem OP (ops : Array Oper) : (List.range ops.size).map (ops[·]?) = ops.toList.map some:=by
  apply List.ext_getElem?;intro i;simp only [List.getElem?_map];by_cases hi : i < ops.size
  · simp [hi]
  · simp [hi]
theorem xW {E : Env} {Q : Exit→Env→AS→Prop} {id : Nat} (L1 L2 L3 : List Oper) {o o' : Oper} (hg : o.guard = none) (hd : ∀ d,o.dst = some d→d < N) (Sc : o'.guard = none) (Ht : ∀ d,o'.dst = some d→d < N)
    (h : AY P Γ N (L1 ++ o :: (L2 ++ o' :: L3)).toArray L1 (fun E1 s1=>∃ K1 : AV→AS→Prop,(∀ G a w,Rel Γ N G E1 s1 a w→cJ P Γ G K1 ((execOp a.eval o).run P w)) ∧
      ∀ r s2,K1 r s2→AY P Γ N (L1 ++ o :: (L2 ++ o' :: L3)).toArray L2 (fun E2 s3=>∃ K2 : AV→AS→Prop,(∀ G a w,Rel Γ N G E2 s3 a w→cJ P Γ G K2 ((execOp a.eval o').run P w)) ∧
        ∀ r' s4,K2 r' s4→AY P Γ N (L1 ++ o :: (L2 ++ o' :: L3)).toArray L3 (fun E' s'=>Q .normal E' s') (bD E2 o'.dst r') s4) (bD E1 o.dst r) s2) E s) :
    cI P Γ N (.region id (L1 ++ o :: (L2 ++ o' :: L3)).toArray false) Q E s:=by
  rw [ay] at h;intro G a w hr;refine wpIn_region ?_;have kU:=OP (L1 ++ o :: (L2 ++ o' :: L3)).toArray;generalize hI : List.range (L1 ++ o :: (L2 ++ o' :: L3)).toArray.size = I at kU;have h1 : (I.take L1.length).map ((L1 ++ o :: (L2 ++ o' :: L3)).toArray[·]?) = L1.map some:=by
    rw [List.map_take,kU]; simp
  have h2 : (I.drop L1.length).map ((L1 ++ o :: (L2 ++ o' :: L3)).toArray[·]?) = (o :: (L2 ++ o' :: L3)).map some:=by
    rw [List.map_drop,kU]; simp
  rw [← List.take_append_drop L1.length I];generalize I.take L1.length = I1 at h1;generalize I.drop L1.length = I2 at h2;cases I2 with
  | nil=>simp at h2
  | cons i I2 =>
    simp only [List.map_cons,List.cons.injEq] at h2;refine dv L1 I1 (i :: I2) h1 (dD _ h) hr ?_;rintro G1 E1 s1 a1 w1 kV nF ⟨⟨K1,nf,hk⟩,zp⟩;rw [wpOpsIn_cons];simp only [wpOpIn,h2.1];rw [if_pos (du hg)];refine (Oper.jx nF hd (nf G1 a1 w1 nF) ?_);intro G3 r s3 a3 w3 N6 sF hK;have h3 : (I2.take L2.length).map ((L1 ++ o :: (L2 ++ o' :: L3)).toArray[·]?) = L2.map some:=by
      rw [List.map_take,h2.2]; simp
    have h4 : (I2.drop L2.length).map ((L1 ++ o :: (L2 ++ o' :: L3)).toArray[·]?) = (o' :: L3).map some:=by
      rw [List.map_drop,h2.2]; simp
    rw [← List.take_append_drop L2.length I2];generalize I2.take L2.length = I3 at h3;generalize I2.drop L2.length = I4 at h4;cases I4 with
    | nil=>simp at h4
    | cons i' I4 =>
      simp only [List.map_cons,List.cons.injEq] at h4;refine dv L2 I3 (i' :: I4) h3 (dD _ (hk r s3 hK)) sF ?_;rintro G5 E5 s5 a5 w5 hG5 KV ⟨⟨K2,Sn,m9⟩,Sj⟩;rw [wpOpsIn_cons];simp only [wpOpIn,h4.1];rw [if_pos (du Sc)];refine (Oper.jx KV Ht (Sn G5 a5 w5 KV) ?_);intro G6 r6 s6 a6 w6 hG6 tR oE;refine kA L3 I4 h4.2 (dD _ (m9 r6 s6 oE)) tR ?_;rintro G4 E4 s4 a4 w4 Sa Ci ⟨KR,Hs⟩;refine ⟨G4,E4,s4,kV.trans (N6.trans (hG5.trans (hG6.trans Sa))),Ci,KR,?_⟩;intro i hi;have mem : ∀ L : List Oper,i ∈ bP L↔∃ o ∈ L,o.dst = some i:=(fun L=>by simp [bP,List.mem_filterMap]);have aO : ¬ ∃ o'' ∈ L1 ++ o :: (L2 ++ o' :: L3),o''.dst = some i:=fun hm=>hi ((mem _).2 hm);have m1 : i ∉ bP L1:=fun hm=>aO (by obtain ⟨o,k1,k2⟩:=(mem _).1 hm; exact ⟨o,by simp [k1],k2⟩);have m2 : i ∉ bP L2:=fun hm=>aO (by obtain ⟨o,k1,k2⟩:=(mem _).1 hm; exact ⟨o,by simp [k1],k2⟩);have m5 : i ∉ bP L3:=fun hm=>aO (by obtain ⟨o,k1,k2⟩:=(mem _).1 hm; exact ⟨o,by simp [k1],k2⟩);have m3 : o.dst≠some i:=fun e=>aO ⟨o,by simp,e⟩;have m4 : o'.dst≠some i:=fun e=>aO ⟨o',by simp,e⟩;rw [Hs i m5,cq m4,Sj i m2,cq m3,zp i m1]
theorem vU {E : Env} {Q : Exit→Env→AS→Prop} {id : Nat} {L3 : List Oper} {a1 a2 b1 b2 b3 o o' : Oper} (hg : o.guard = none) (hd : ∀ d,o.dst = some d→d < N) (Sc : o'.guard = none) (Ht : ∀ d,o'.dst = some d→d < N)
    (h : ∀ ops,AY P Γ N ops [a1,a2] (fun E1 s1=>∃ K1 : AV→AS→Prop,(∀ G a w,Rel Γ N G E1 s1 a w→cJ P Γ G K1 ((execOp a.eval o).run P w)) ∧
      ∀ r s2,K1 r s2→AY P Γ N ops [b1,b2,b3] (fun E2 s3=>∃ K2 : AV→AS→Prop,(∀ G a w,Rel Γ N G E2 s3 a w→cJ P Γ G K2 ((execOp a.eval o').run P w)) ∧
        ∀ r' s4,K2 r' s4→AY P Γ N ops L3 (fun E' s'=>Q .normal E' s') (bD E2 o'.dst r') s4) (bD E1 o.dst r) s2) E s) :
    cI P Γ N (.region id (a1 :: a2 :: o :: b1 :: b2 :: b3 :: o' :: L3).toArray false) Q E s :=
  xW [a1,a2] [b1,b2,b3] L3 hg hd Sc Ht (h _)
end Go.AM
namespace Go.AM
open Go Go.RowKit
variable {P : Program} {Γ : Nat→List AV} {N : Nat} {x y : List AV}
theorem Fk {E : Env} {s : AS} {Q : Exit→Env→AS→Prop} (d : Nat) {id : Nat} {L : List Oper} {y : Code} (hd : d ∈ bP L)
    (h : ∀ K : Env→AS→Prop,(∀ E s x' s',bf Γ s (E d) s' x'→cI P Γ N y Q (aG E d x') s'→K E s)→AY P Γ N L.toArray L K E s) : cI P Γ N (.seq (.region id L.toArray false) y) Q E s:=by
  refine kk (jz ?_);have:=h (fun E' s'=>∃ iG im,fw Γ N E' s' iG im∧(∀ i,i ∉ bP L→iG i = E' i)∧av (cI P Γ N y Q) Q .normal iG im) ?_
  · rw [ay] at this;simpa using this
  · intro E' s' x' im h1 h3;exact ⟨aG E' d x',im,fw.settle rfl h1,fun i hi=>eG _ _ (fun e=>hi (e ▸ hd)),h3⟩
theorem bf.made {s : AS} {o n cap : Nat} {cs : List AV} {sp : Sp} (ho : s.aJ o = none) (hl : cs.length = n) : bf Γ (s.set o cs) (.dj o 0 1 n cap) s (.sl 1 n cs .any):=by
  have:=bf.outer (Γ:=Γ) (s:=s.set o cs) (o:=o) (sz:=1) (n:=n) (cap:=cap) (cs:=cs) (rest:=[]) (by rw [AS.aj,List.append_nil]) (by omega);rwa [AS.drop_set ho] at this
theorem AS.Fl (s : AS) {a b : Nat} (h : a≠b) (x y : List AV) : (s.set a x).set b y = (s.set b y).set a x:=by
  simp only [AS.set,AS.mk.injEq,and_true];funext i;simp only [aG];by_cases e : i = b
  · subst e; rw [if_pos rfl,if_neg (fun k=>h k.symm),if_pos rfl]
  · rw [if_neg e,if_neg e]
theorem AS.oF (s : AS) {a b c : Nat} (h1 : s.aJ a = none) (h2 : (if b = a then some x else s.aJ b) = none) (h3 : (if c = b then some y else if c = a then some x else s.aJ c) = none) (z : List AV) :
    ((s.set a x).set b y).set c z = ((s.set c z).set a x).set b y∧(s.set c z).aJ a = none∧((s.set c z).set a x).aJ b = none∧s.aJ c = none:=by
  have ba : b≠a:=(by rintro rfl; simp at h2);have cb : c≠b:=(by rintro rfl; simp at h3);have ca : c≠a:=(by rintro rfl; rw [if_neg cb,if_pos rfl] at h3; cases h3);rw [if_neg ba] at h2;rw [if_neg cb,if_neg ca] at h3;refine ⟨?_,?_,?_,h3⟩
  · rw [AS.Fl (s.set a x) cb.symm,AS.Fl s ca.symm]
  · rw [AS.aR _ ca.symm]; exact h1
  · rw [AS.aR _ ba,AS.aR _ cb.symm]; exact h2
theorem LW (f : FuncId) : (AV.v (.func (.func f) #[] #[])).aL (.tN f []):=by
  intro G u h;simp only [ar] at h;subst h;simp only [ar,al];exact ⟨[],rfl,rfl⟩
theorem cY {E : Env} {s : AS} {cO : AV→AS→Prop} {a T t u o off : Nat} {cs : List AV} {v : AV} (h1 : E a = .ptr o off) (h2 : s.aJ o = some cs) (h3 : P.cellsOf T≠0) (h4 : pO P T (cs.drop off) = some v)
    (h : ∃ r s',(AV.dZ [v,E t,E u]).aL r∧s'.le s∧cO r s') : cF P [.cell a T,.tmp t,.tmp u] cO .ret E s:=by
  simp only [cF,bI,bM,dh,h1,h2,if_neg h3,h4];exact h
end Go.AM
namespace Go.AM
open Go Go.RowKit
variable {P : Program} {Γ : Nat→List AV} {G : Gh} {s : AS} {w : World} {N : Nat} {E : Env}
def Bl (E : Env) : List Tmp→List AV→Env
  | p :: ps,x :: xs=>Bl (aG E p x) ps xs
  | _,_=>E
theorem Co {G : Gh} : ∀ (ps : List Tmp) (xs : List AV) (us : List Value) (E : Env) (t : Array Value),al G xs us→t.size = N→(∀ p ∈ ps,p < N)→(∀ i,ar G (E i) (t.getD i undef)) →
    ((ps.zip us).foldl (fun t (pv : Tmp × Value)=>t.setIfInBounds pv.1 pv.2) t).size = N∧∀ i,ar G (Bl E ps xs i) (((ps.zip us).foldl (fun t (pv : Tmp × Value)=>t.setIfInBounds pv.1 pv.2) t).getD i undef)
  | [],xs,us,E,t,hv,hs,hp,h=>by simp only [Bl,List.zip_nil_left,List.foldl_nil]; exact ⟨hs,h⟩
  | p :: ps,[],us,E,t,hv,hs,hp,h=>by simp only [al] at hv; subst hv; simp only [Bl,List.zip_nil_right,List.foldl_nil]; exact ⟨hs,h⟩
  | p :: ps,x :: xs,us,E,t,hv,hs,hp,h=>by
    simp only [al] at hv;obtain ⟨u,vA,rfl,h1,h2⟩:=hv;simp only [List.zip_cons_cons,List.foldl_cons,Bl];refine Co ps xs vA (aG E p x) (t.setIfInBounds p u) h2 (by simpa using hs) (fun q hq=>hp q (by simp [hq])) fun i=>?_;simp only [aG];split
    · rename_i e;subst e;have : i < t.size:=(by rw [hs]; exact hp i (by simp));simpa [Array.getD,this] using h1
    · rename_i e;have:=h i;simp only [Array.getD_eq_getD_getElem?] at this ⊢;rw [Array.getElem?_setIfInBounds_ne (by omega)];exact this
def xx (P : Program) (Γ : Nat→List AV) (gf : FuncId) (dm : List AV) (xs : List (List AV)) : Prop :=
  ∀ (I : Nat→AS→Prop) (l : Nat) (s : AS) (G : Gh) (W : World) (lb : List Value),G.df = []→al G dm lb→I 0 s→aU Γ G s W →
    (∀ i x s1 G1 us W1,xs[i]? = some x→I i s1→G.le G1→aU Γ G1 s1 W1→al G1 x us→YieldAt Fence.wide 0 P l us.toArray W1 fun e W'=>e = .returned (.bool true)∧∃ G2 s2,G1.le G2∧aU Γ G2 s2 W'∧I (i + 1) s2) →
    CallsIn Fence.wide 0 P gf (#[.func (.yield l) #[] #[]] ++ lb.toArray) W fun e W'=>(∃ v,e = .returned v)∧∃ G2 s2,G.le G2∧aU Γ G2 s2 W'∧I xs.length s2
theorem Dl {a : Act} {g : Operand} {ps : List Tmp} {assign body : Code} {gf : FuncId} {dm : List AV} {xs : List (List AV)} (hr : Rel Γ N G E s a w) (vN : G.df = []) (hg : aN Γ E g = .tN gf dm) (IQ : ai P gf = true) (KT : xx P Γ gf dm xs)
    (hp : ∀ p ∈ ps,p < N) (JT : ∀ x ∈ xs,x.length = ps.length) (I : Nat→AS→Prop) (h0 : I 0 s)
    (Sq : ∀ (i : Nat) (x : List AV) (s1 : AS),xs[i]? = some x→I i s1→cI P Γ N assign (fun e E2 s2=>e = .normal∧cI P Γ N body (fun e E3 s3=>e = .normal∧I (i + 1) s3) E2 s2) (Bl E ps x) s1) :
    (Code.rangeFunc g ps.toArray assign body).wpIn Fence.wide 0 P (fun e a' w'=>e = .normal∧∃ D G' s',G.le G'∧w.heap.size≤D∧w'.heap[D]? = some (.deferred (some [])) ∧
      a' = { a with defers:={ target:=.collected D,args:=#[] } :: a.defers }∧aU Γ G' s' w'∧I xs.length s') a w:=by
  have Sb:=hr.eval g;rw [hg] at Sb;simp only [ar] at Sb;obtain ⟨lb,Sc,Sd⟩:=Sb;have Lq : G.w0.heap.size≤w.heap.size:=hr.st.below.size;have hBw : G.B≤w.heap.size:=hr.st.base;refine wpIn_rangeFunc ?_;intro fn UX;obtain ⟨rec,qy⟩ : ∃ rec : LoopState→Option Code→Loop,rec = fun st pe=>{ state:=st,pending:=pe,fn,tmps:=a.tmps,params:=ps.toArray,assign,body,defers:=w.heap.size }:=⟨_,rfl⟩;obtain ⟨W1,OK⟩ : ∃ W1,(w.alloc (.deferred (some []))).alloc (.loop (rec .ready none)) = W1:=⟨_,rfl⟩;have Se : W1.heap[w.heap.size + 1]? = some (.loop (rec .ready none)):=by
    rw [← OK]; have:=World.alloc_heap_new (w.alloc (.deferred (some []))) (.loop (rec .ready none)); rwa [World.size_alloc] at this
  have tQ : W1.heap[w.heap.size]? = some (.deferred (some [])):=by
    rw [← OK]; exact (Below.heap_alloc _ _ _ (by simp)).trans (World.alloc_heap_new w _)
  have vE : aU Γ G s W1:=by
    rw [← OK]; exact (hr.st.alloc _ (by intro c T lo hi e; cases e)).alloc _ (by intro c T lo hi e; cases e)
  refine ⟨w.heap.size + 1,[{ target:=.collected w.heap.size,args:=#[] }],W1,{ target:=.fn (.func gf) lb.toArray,args:=#[.func (.yield (w.heap.size + 1)) #[] #[]] },W1,gf,
    #[.func (.yield (w.heap.size + 1)) #[] #[]] ++ lb.toArray,W1,?_,?_,?_,?_,(fun e=>by cases e),?_⟩
  · rw [← OK,qy]; exact run_enterLoop_outer _ _ _ _ _
  · simp only [resolve,Sc];simp [go_sem]
  · intro f' _; trivial
  · have:=lz (w:=W1) IQ (#[.func (.yield (w.heap.size + 1)) #[] #[]] ++ lb.toArray);simpa [invoke,go_sem] using this
  · have hsW : aU Γ (G.setW W1) s W1:=vE.setW;refine (KT I (w.heap.size + 1) s (G.setW W1) W1 lb vN (al.sub (G.ir W1) _ _ Sd) h0 hsW ?_).mono ?_
    · rintro i x s1 G1 us W hx hI hle h2 hu;have KU : G1.w0 = W1:=hle.w0;have Sf : G1.B = G.B:=hle.B;have JZ : dS W1 W:=(by have:=h2.others; rwa [KU] at this);have hl:=JZ _ _ Se (by intros; simp);have hk:=JZ _ _ tQ (by intros; simp);have hbW : Below G.B W1 W:=(by have:=h2.below; rwa [KU,Sf] at this);obtain ⟨q1,q2⟩:=vE.tW hle h2;have cN : w.heap.size + 1 < W.heap.size:=(Array.getElem?_eq_some_iff.1 hl).1;have hy:=run_yield (P:=P) (args:=us.toArray) hl (by rw [qy]; simp [← hu.length,JT x (List.mem_of_getElem? hx)]);rw [qy] at hy;refine ⟨fn,_,assign,body,hy,roundIn_of_wpIn UX ?_⟩;have e3 : ((ps.toArray).zip us.toArray).foldl (fun t (p,v)=>t.setIfInBounds p v) a.tmps = (ps.zip us).foldl (fun t (pv : Tmp × Value)=>t.setIfInBounds pv.1 pv.2) a.tmps:=(by simp);have LI : Rel Γ N ((G1.setW G.w0).setW W) (Bl E ps x) s1 { tmps:=((ps.toArray).zip us.toArray).foldl (fun t (p,v)=>t.setIfInBounds p v) a.tmps,defers:=[] } W:=by
        rw [e3];have htm:=Co (G:=(G1.setW G.w0).setW W) ps x us E a.tmps (al.sub (G:=G1.setW G.w0) (Gh.ir _ _) _ _ (al.sub (G1.ir G.w0) _ _ hu)) hr.size hp fun k=>ar.sub (G:=G1.setW G.w0) (Gh.ir _ _) _ _ (ar.mono q2 _ _ (hr.tmps k));exact ⟨q1.setW,htm.1,htm.2,by rw [show ((G1.setW G.w0).setW W).df = G1.df from rfl,hle.df]; exact vN.symm⟩
      refine wpIn_mono (Sq i x s1 hx hI _ _ W LI (rd:=some (w.heap.size + 1))) ?_;rintro e a1 Wa ⟨Ga,E2,s2,Bh,J0,⟨rfl,Sr⟩,-⟩;have Sg : dS W Wa:=by
        have:=J0.st.others;rwa [show Ga.w0 = W from Bh.w0] at this
      have hba : Below G.B W Wa:=by
        have:=J0.st.below;rwa [show Ga.w0 = W from Bh.w0,show Ga.B = G.B from Bh.B.trans Sf] at this
      have Sh:=Sg _ _ hl (by intros; simp);have xa1:=Sg _ _ hk (by intros; simp);obtain ⟨gb1,gb2⟩:=q1.tW Bh J0.st;refine ⟨_,run_beginRound Sh (by rw [qy]),?_⟩;have LJ : w.heap.size + 1 < Wa.heap.size:=(Array.getElem?_eq_some_iff.1 Sh).1;obtain ⟨W2,LK⟩ : ∃ W2,Wa.putObj (w.heap.size + 1) (.loop { rec .ready none with state:=.busy }) = W2:=⟨_,rfl⟩;have Ba : W2.heap[w.heap.size + 1]? = some (.loop { rec .ready none with state:=.busy }):=(by rw [← LK]; exact World.putObj_heap_same LJ);have hBa : Ga.B = G.B:=Bh.B.trans Sf;have vC : aU Γ (Ga.setW G.w0) s2 W2:=by
        rw [← LK];exact gb1.putObj Sh (by intros; simp) (by intros; simp) (by show G.w0.heap.size≤_; omega) (by show Ga.B≤_; omega)
      rw [LK];have C8 : Rel Γ N ((Ga.setW G.w0).setW W2) E2 s2 a1 W2 :=
        ⟨vC.setW,J0.size,fun k=>ar.sub (G:=Ga) (G':=(Ga.setW G.w0).setW W2) ⟨rfl,rfl,rfl,rfl⟩ _ _ (J0.tmps k),J0.defers⟩
      refine wpIn_mono (Sr _ _ W2 C8 (rd:=some (w.heap.size + 1))) ?_;rintro e a3 W3 ⟨G2,E3,s3,g1,⟨g2,-,-,-⟩,⟨rfl,hI3⟩,-⟩;have T9 : G2.w0 = W2:=g1.w0;have UY : G2.B = G.B:=g1.B.trans hBa;have Ou : dS W2 W3:=by
        have:=g2.others;rwa [T9] at this
      have N7 : Below G.B W2 W3:=by
        have:=g2.below;rwa [T9,UY] at this
      have N4:=Ou _ _ Ba (by intros; simp);obtain ⟨g3,g4⟩:=vC.tW g1 g2;have sF : (Instr.endRound (w.heap.size + 1) none).run P W3 = .ok (.bool true) (W3.putObj (w.heap.size + 1) (.loop (rec .ready none))):=by
        have:=run_endRound (P:=P) none N4;rw [qy] at this ⊢;exact this
      have Bi : w.heap.size + 1 < W3.heap.size:=(Array.getElem?_eq_some_iff.1 N4).1;have N8:=g3.putObj (o':=.loop (rec .ready none)) N4 (by intros; simp) (by intros; simp) (by show G.w0.heap.size≤_; omega) (by show G2.B≤_; omega);have LM : ∀ (V : World) (o : Obj),w.heap.size + 1 < V.heap.size→Below G.B V (V.putObj (w.heap.size + 1) o):=fun V o hV =>
        (Below.refl _ _).grown (row:=some (w.heap.size + 1)) ⟨rfl,rfl,rfl,by simp [World.putObj],fun i _ hi=>World.putObj_heap_other (fun e=>hi (by rw [e]))⟩ (by omega) (fun i e=>by cases e; omega)
      refine ⟨_,_,sF,rfl,G2.setW W1,s3,?_,?_,hI3⟩
      · exact ⟨fun b j v hv=>g1.ro b j v (Bh.ro b j v hv),fun o b hb=>g1.obj o b (Bh.obj o b hb),fun t e r ht=>g1.tok t e r (Bh.tok t e r ht),g1.B.trans Bh.B,KU.symm,g1.df.trans Bh.df⟩
      · refine N8.sub (G:=G2.setW G.w0) (G':=G2.setW W1) ⟨rfl,rfl,rfl,rfl⟩ rfl rfl ?_ ?_
        · show Below G2.B W1 _;rw [UY];refine (hbW.trans hba).trans (Below.trans ?_ (N7.trans (LM _ _ Bi)));rw [← LK];exact LM _ _ LJ
        · intro k o LN mZ;replace LN : W1.heap[k]? = some o:=LN;by_cases e : k = w.heap.size + 1
          · subst e;rw [Se] at LN;cases LN;exact World.putObj_heap_same Bi
          · rw [World.putObj_heap_other e];refine Ou k o ?_ mZ;rw [← LK,World.putObj_heap_other e];exact Sg k o (JZ k o LN mZ) mZ
    · rintro e W2 ⟨⟨v,rfl⟩,G2,s2,h1,h2,U1⟩;have KU : G2.w0 = W1:=h1.w0;have JZ : dS W1 W2:=(by have:=h2.others; rwa [KU] at this);have hl:=JZ _ _ Se (by intros; simp);have hk:=JZ _ _ tQ (by intros; simp);obtain ⟨q1,q2⟩:=vE.tW h1 h2;refine ⟨none,_,by have:=run_endLoop (P:=P) hl (by rw [qy]; simp); rw [qy] at this; exact this,rfl,w.heap.size,G2.setW G.w0,s2,q2,Nat.le_refl _,(World.putObj_heap_other (by omega)).trans hk,rfl,?_,U1⟩;rw [qy] at hl;exact q1.putObj hl (by intros; simp) (by intros; simp) (by show G.w0.heap.size≤_; omega) (by rw [show (G2.setW G.w0).B = G2.B from rfl,h1.B]; show G.B≤_; omega)
def Hw (P : Program) (Γ : Nat→List AV) (N : Nat) (rs : List ResultVar) (cO : AV→AS→Prop) (c : Code) (E : Env) (s : AS) : Prop :=
  ∀ (G : Gh) (a : Act) (w : World),G.df = []→Rel Γ N G E s a w→c.wpIn Fence.wide 0 P (fun e a' w'=>(e = .normal∨e = .ret)∧∃ D G' E' s',G.le G'∧(G.w0.heap.size≤D∧G.B≤D)∧w'.heap[D]? = some (.deferred (some [])) ∧
      a'.defers = [{ target:=.collected D,args:=#[] }]∧Rel Γ N (G'.ec a'.defers) E' s' a' w'∧bI P rs cO E' s') a w
theorem zz {f : FuncId} {fn : Func} {c : Code} {args : List AV} {cO : AV→AS→Prop} {s : AS} (hf : P.funcs[f]? = some fn) (hb : fn.body = some c) {n : Nat} (hN : fn.ntmps = n) {rs : Array ResultVar} (JV : fn.results = rs) (hn : args.length≤n)
    (h : Hw P Γ n rs.toList cO c (dE args) s) : ah P Γ f args s cO:=by
  subst hN;subst JV;exact pS hf hb hn h
variable {rs : List ResultVar} {cO : AV→AS→Prop}
theorem OQ {x y : Code} (h : cI P Γ N x (fun e E' s'=>e = .normal∧Hw P Γ N rs cO y E' s') E s) : Hw P Γ N rs cO (.seq x y) E s:=by
  intro G a w vN hr;refine wpIn_seq (wpIn_mono (F:=xf none) (n:=0) (h G a w hr) ?_);rintro e a1 w1 ⟨G1,E1,s1,g1,g2,⟨rfl,k⟩,-⟩;refine wpIn_mono (k G1 a1 w1 (g1.df.trans vN) g2) ?_;rintro e a' w' ⟨he,D,G',E',s',h1,h2,h3⟩;exact ⟨he,D,G',E',s',g1.trans h1,by rw [← g1.w0,← g1.B]; exact h2,h3⟩
theorem ru {id : Nat} {L : List Oper} {y : Code} (h : ∀ K : Env→AS→Prop,(∀ E s,Hw P Γ N rs cO y E s→K E s)→AY P Γ N L.toArray L K E s) : Hw P Γ N rs cO (.seq (.region id L.toArray false) y) E s:=by
  refine OQ (pg ?_);have:=h (fun E s=>Exit.normal = .normal∧Hw P Γ N rs cO y E s) fun E s k=>⟨rfl,k⟩;rw [ay] at this;simpa using this
def Hy (P : Program) (Γ : Nat→List AV) (N : Nat) (rs : List ResultVar) (cO : AV→AS→Prop) (g : Operand) (ps : List Tmp) (assign body rest : Code) (E : Env) (s : AS) : Prop :=
  ∃ (gf : FuncId) (dm : List AV) (xs : List (List AV)) (I : Nat→AS→Prop),aN Γ E g = .tN gf dm∧ai P gf = true∧xx P Γ gf dm xs∧(∀ x ∈ xs,x.length = ps.length)∧I 0 s ∧
    (∀ (i : Nat) (x : List AV) (s1 : AS),xs[i]? = some x→I i s1→cI P Γ N assign (fun e E2 s2=>e = .normal∧cI P Γ N body (fun e E3 s3=>e = .normal∧I (i + 1) s3) E2 s2) (Bl E ps x) s1) ∧
    ∀ s2,I xs.length s2→cI P Γ N rest (cF P rs cO) E s2
theorem J6 {b : Nat} {x : Code} {g : Operand} {ps : List Tmp} {assign body rest : Code} (hp : ∀ p ∈ ps,p < N)
    (h : cI P Γ N x (fun e E' s'=>e = .normal∧Hy P Γ N rs cO g ps assign body rest E' s') E s) : Hw P Γ N rs cO (.seq (.seq x (.block b (.rangeFunc g ps.toArray assign body))) rest) E s:=by
  intro G a w vN hr;refine wpIn_seq (wpIn_seq (wpIn_mono (F:=xf none) (n:=0) (h G a w hr) ?_));rintro e a1 w1 ⟨G1,E1,s1,g1,g2,⟨rfl,gf,dm,xs,I,q1,q2,q3,q4,q5,q6,q7⟩,-⟩;have U7 : G1.df = []:=g1.df.trans vN;refine wpIn_block (wpIn_mono (Dl g2 U7 q1 q2 q3 hp q4 I q5 q6) ?_);rintro e a2 w2 ⟨rfl,D,G2,s2,h1,hD,hk,rfl,hs,hI⟩;have fY:=g2.st.below.size;have Ls:=g2.st.base;refine cI.behind g2 h1 hk hs U7 (q7 s2 hI) ?_;intro e G3 E3 s3 a3 w3 j1 j2 j3 j4 j5;have hf : bI P rs cO E3 s3∧(e = .normal∨e = .ret):=by
    cases e <;> simp only [cF] at j5
    · exact ⟨j5,.inl rfl⟩
    · exact ⟨j5,.inr rfl⟩
  exact ⟨hf.2,D,G3,E3,s3,g1.trans j1,⟨by rw [← g1.w0]; omega,by rw [← g1.B]; omega⟩,j2,j3,j4,hf.1⟩
theorem sG {id b : Nat} {L : List Oper} {g : Operand} {ps : List Tmp} {assign body rest : Code} (hp : ∀ p ∈ ps,p < N)
    (h : ∀ K : Env→AS→Prop,(∀ E s,Hy P Γ N rs cO g ps assign body rest E s→K E s)→AY P Γ N L.toArray L K E s) : Hw P Γ N rs cO (.seq (.seq (.region id L.toArray false) (.block b (.rangeFunc g ps.toArray assign body))) rest) E s:=by
  refine J6 hp (pg ?_);have:=h (fun E s=>Exit.normal = .normal∧Hy P Γ N rs cO g ps assign body rest E s) fun E s k=>⟨rfl,k⟩;rw [ay] at this;simpa using this
end Go.AM
namespace Go.AM
open Go Go.RowKit
variable {P : Program} {Γ : Nat→List AV} {G : Gh} {s : AS} {w : World} {N : Nat} {E : Env}
theorem xX {Q : Exit→Env→AS→Prop} {id : Nat} {L2 : List Oper} {o1 o2 o3 o : Oper} (hg : o.guard = none) (hd : ∀ d,o.dst = some d→d < N)
    (h : ∀ ops,AY P Γ N ops [o1,o2,o3] (fun E1 s1=>∃ K1 : AV→AS→Prop,(∀ G a w,Rel Γ N G E1 s1 a w→cJ P Γ G K1 ((execOp a.eval o).run P w)) ∧
      ∀ r s2,K1 r s2→AY P Γ N ops L2 (fun E' s'=>Q .normal E' s') (bD E1 o.dst r) s2) E s) :
    cI P Γ N (.region id (o1 :: o2 :: o3 :: o :: L2).toArray false) Q E s :=
  mz [o1,o2,o3] L2 hg hd (h _)
def YA (P : Program) (Γ : Nat→List AV) (G0 : Gh) (l : Nat) (x : List AV) (s1 : AS) (cO : AS→Prop) : Prop :=
  ∀ (G1 : Gh) (us : List Value) (W1 : World),G0.le G1→aU Γ G1 s1 W1→al G1 x us→YieldAt Fence.wide 0 P l us.toArray W1 fun e W'=>e = .returned (.bool true)∧∃ G2 s2,G1.le G2∧aU Γ G2 s2 W'∧cO s2
def IW (P : Program) (Γ : Nat→List AV) (N : Nat) (G0 : Gh) (c : Code) (Q : Exit→Env→AS→Prop) (E : Env) (s : AS) : Prop :=
  ∀ (G : Gh) (a : Act) (w : World),G0.le G→Rel Γ N G E s a w →
    c.wpIn Fence.wide 0 P (fun e a' w'=>∃ G' E' s',G.le G'∧Rel Γ N G' E' s' a' w'∧Q e E' s'∧∀ i,i ∉ writes c→E' i = E i) a w
variable {G0 : Gh} {Q : Exit→Env→AS→Prop}
theorem cI.y {c : Code} (h : cI P Γ N c Q E s) : IW P Γ N G0 c Q E s:=fun G a w _ hr=>h G a w hr (rd:=none)
theorem fE {x y : Code} (h : IW P Γ N G0 x (av (IW P Γ N G0 y Q) Q) E s) : IW P Γ N G0 (.seq x y) Q E s:=by
  intro G a w hG hr;refine wpIn_seq (wpIn_mono (h G a w hG hr) ?_);rintro e a' w' ⟨G',E',s',h1,h2,h3,h4⟩;have hw : ∀ i,i ∉ writes (.seq x y)→E' i = E i:=fun i hi=>h4 i (fun hm=>hi (by simp [writes,hm]));cases e <;> simp only [Exit.then,av] at h3 ⊢;case normal =>
    refine wpIn_mono (h3 G' a' w' (hG.trans h1) h2) ?_;rintro e BZ yt ⟨yu,iG,im,k1,k2,k3,k4⟩;exact ⟨yu,iG,im,h1.trans k1,k2,k3,fun i hi=>by rw [k4 i (fun hm=>hi (by simp [writes,hm])),hw i hi]⟩
  all_goals exact ⟨G',E',s',h1,h2,h3,hw⟩
theorem ry {id : Nat} {c : Code} (h : IW P Γ N G0 c (aq id Q) E s) : IW P Γ N G0 (.block id c) Q E s:=by
  intro G a w hG hr;refine wpIn_block (wpIn_mono (h G a w hG hr) ?_);rintro e a' w' ⟨G',E',s',h1,h2,h3,h4⟩;cases e <;> simp only [Exit.inBlock,aq] at h3 ⊢;case exit Z3 =>
    split at h3
    · rename_i R1; rw [if_pos R1]; exact ⟨G',E',s',h1,h2,h3,h4⟩
    · rename_i R1; rw [if_neg R1]; exact ⟨G',E',s',h1,h2,h3,h4⟩
  all_goals exact ⟨G',E',s',h1,h2,h3,h4⟩
theorem Fm {c : Code} (I : Env→AS→Prop) (μ : Env→AS→Nat) (h0 : I E s)
    (round : ∀ E' s',I E' s'→(∀ i,i ∉ writes c→E' i = E i)→IW P Γ N G0 c (av (fun iG im=>I iG im∧μ iG im < μ E' s') Q) E' s') : IW P Γ N G0 (.loop c) Q E s:=by
  intro G a w hG hr;let Φ : Act→World→Gh→Env→AS→Prop:=fun a w G' E' s'=>G.le G'∧Rel Γ N G' E' s' a w∧I E' s'∧∀ i,i ∉ writes c→E' i = E i;let C : Act→World→Nat→Prop:=fun a w n=>∃ G' E' s',Φ a w G' E' s'∧μ E' s' = n;open Classical in
  let ν : Act→World→Nat:=fun a w=>if h : ∃ n,C a w n then Classical.choose (exists_least _ h) else 0
  refine wpIn_loop (fun a w=>∃ n,C a w n) ν ⟨_,G,E,s,⟨.refl G,hr,h0,fun _ _=>rfl⟩,rfl⟩ ?_;intro a1 w1 hI;have hν : ν a1 w1 = Classical.choose (exists_least _ hI):=(by simp only [ν]; rw [dif_pos hI]);obtain ⟨G1,E1,s1,⟨g1,g2,g3,g4⟩,g5⟩:=(Classical.choose_spec (exists_least _ hI)).1;refine wpIn_mono (round E1 s1 g3 g4 G1 a1 w1 (hG.trans g1) g2) ?_;rintro e a' w' ⟨G',E',s',h1,h2,h3,h4⟩;have hw : ∀ i,i ∉ writes c→E' i = E i:=(fun i hi=>by rw [h4 i hi,g4 i hi]);cases e <;> simp only [Exit.then,av] at h3 ⊢;case normal =>
    have hC : ∃ n,C a' w' n:=⟨_,G',E',s',⟨g1.trans h1,h2,h3.1,hw⟩,rfl⟩;refine ⟨hC,?_⟩;have : ν a' w' = Classical.choose (exists_least _ hC):=(by simp only [ν]; rw [dif_pos hC]);rw [this,hν,← g5];exact Nat.lt_of_le_of_lt ((Classical.choose_spec (exists_least _ hC)).2 _ ⟨G',E',s',⟨g1.trans h1,h2,h3.1,hw⟩,rfl⟩) h3.2
  all_goals exact ⟨G',E',s',g1.trans h1,h2,h3,hw⟩
theorem Bm {ρ : Operand→Value} {o : Oper} {f : Operand} {xs : List Operand} {ts : Array TypeId} {l : Nat} (ho : o.op = .call { callee:=.value f,args:=xs.toArray,argTypes:=ts }) (hf : ρ f = .func (.yield l) #[] #[]) :
    (execOp ρ o).run P w = (Instr.yield l (xs.map ρ).toArray).run P w:=by
  obtain ⟨dst,op,type,pos,after,guard⟩:=o;simp only at ho;subst ho;simp [execOp,resolve,hf,Deferred.ofValue,invoke]
theorem zA {G : Gh} {E : Env} {a : Act} {w : World} (hr : Rel Γ N G E s a w) : ∀ xs : List Operand,al G (xs.map (aN Γ E)) (xs.map a.eval)
  | []=>by simp [al]
  | x :: xs=>by simp only [List.map_cons,al]; exact ⟨_,_,rfl,hr.eval x,zA hr xs⟩
theorem Cp {l id : Nat} (L1 L2 : List Oper) {o : Oper} {f : Operand} {xs : List Operand} {ts : Array TypeId}
    (ho : o.op = .call { callee:=.value f,args:=xs.toArray,argTypes:=ts }) (hg : o.guard = none) (hd : ∀ d,o.dst = some d→d < N)
    (h1 : AY P Γ N (L1 ++ o :: L2).toArray L1 (fun E1 s1=>aN Γ E1 f = .v (.func (.yield l) #[] #[])∧∃ cO,YA P Γ G0 l (xs.map (aN Γ E1)) s1 cO ∧
      ∀ s2,cO s2→AY P Γ N (L1 ++ o :: L2).toArray L2 (fun E' s'=>Q .normal E' s') (bD E1 o.dst (.v (.bool true))) s2) E s) : IW P Γ N G0 (.region id (L1 ++ o :: L2).toArray false) Q E s:=by
  intro G a w hG hr;rw [ay] at h1;refine wpIn_region ?_;have kU:=Ck (L1 ++ o :: L2).toArray;generalize List.range (L1 ++ o :: L2).toArray.size = I at kU ⊢;obtain ⟨I1,i,I2,rfl,m1,mo,m2⟩:=Cl (A:=L1) (B:=L2) (o:=o) kU;refine ja (l:=none) L1 I1 (i :: I2) m1 (dD _ h1) hr ?_;rintro G1 E1 s1 a1 w1 kV nF ⟨⟨hf,cO,hy,hk⟩,zp⟩;have A7:=nF.eval f;rw [hf] at A7;simp only [ar] at A7;obtain ⟨fn,tmps,assign,body,q1,q2⟩:=hy G1 (xs.map a1.eval) w1 (hG.trans kV) nF.st (zA nF xs);simp only [wpOpsIn,mo];rw [if_pos (du hg)];refine ⟨fun _ _=>trivial,?_⟩;rw [Oper.semAt_eq _ _ _ (by intro c; rw [ho]; simp),Bm ho A7,q1];rw [Oper.uponIn_round];refine ⟨fun e=>(by cases e),RoundIn.mono (F:=Fence.wide) q2 ?_⟩;rintro e W' ⟨rfl,G2,s2,g1,g2,g3⟩;have g4:=hk s2 g3;have qz : Rel Γ N G2 E1 s2 a1 W':=⟨g2,nF.size,fun i=>ar.mono g1 _ _ (nF.tmps i),nF.defers.trans g1.df.symm⟩;have sF:=qz.put (dst:=o.dst) (Gh.le.refl G2) g2 (r:=.v (.bool true)) (v:=.bool true) (by simp [ar]) hd;refine pt (l:=none) L2 I2 m2 (dD _ g4) sF ?_;rintro G3 E3 s3 a3 w3 h3 sF ⟨GK,Si⟩;refine ⟨G3,E3,s3,kV.trans (g1.trans h3),sF,GK,fun j hj=>?_⟩;have mem : ∀ L : List Oper,j ∈ bP L↔∃ o ∈ L,o.dst = some j:=(fun L=>by simp [bP,List.mem_filterMap]);have gh : ¬ ∃ o' ∈ L1 ++ o :: L2,o'.dst = some j:=fun hm=>hj ((mem _).2 hm);have m1 : j ∉ bP L1:=fun hm=>gh (by obtain ⟨o,k1,k2⟩:=(mem _).1 hm; exact ⟨o,by simp [k1],k2⟩);have m2 : j ∉ bP L2:=fun hm=>gh (by obtain ⟨o,k1,k2⟩:=(mem _).1 hm; exact ⟨o,by simp [k1],k2⟩);have m3 : o.dst≠some j:=fun e=>gh ⟨o,by simp,e⟩;rw [Si j m2,cq m3,zp j m1]
theorem Hz {l id : Nat} {o1 o2 o p1 : Oper} {f : Operand} {xs : List Operand} {ts : Array TypeId} {code : Code}
    (ho : o.op = .call { callee:=.value f,args:=xs.toArray,argTypes:=ts }) (hg : o.guard = none) (hd : ∀ d,o.dst = some d→d < N)
    (h1 : ∀ (K : Env→AS→Prop),(∀ E s,IW P Γ N G0 code Q E s→K E s)→∀ ops,AY P Γ N ops [o1,o2] (fun E1 s1=>aN Γ E1 f = .v (.func (.yield l) #[] #[])∧∃ cO,YA P Γ G0 l (xs.map (aN Γ E1)) s1 cO ∧
      ∀ s2,cO s2→AY P Γ N ops [p1] K (bD E1 o.dst (.v (.bool true))) s2) E s) : IW P Γ N G0 (.seq (.region id #[o1,o2,o,p1] false) code) Q E s :=
  fE (Cp [o1,o2] [p1] ho hg hd (h1 _ (fun _ _ h=>h) _))
theorem HA {l id : Nat} {o1 o2 o3 o4 o5 o6 o p1 : Oper} {f : Operand} {xs : List Operand} {ts : Array TypeId} {code : Code}
    (ho : o.op = .call { callee:=.value f,args:=xs.toArray,argTypes:=ts }) (hg : o.guard = none) (hd : ∀ d,o.dst = some d→d < N)
    (h1 : ∀ (K : Env→AS→Prop),(∀ E s,IW P Γ N G0 code Q E s→K E s)→∀ ops,AY P Γ N ops [o1,o2,o3,o4,o5,o6] (fun E1 s1=>aN Γ E1 f = .v (.func (.yield l) #[] #[])∧∃ cO,YA P Γ G0 l (xs.map (aN Γ E1)) s1 cO ∧
      ∀ s2,cO s2→AY P Γ N ops [p1] K (bD E1 o.dst (.v (.bool true))) s2) E s) : IW P Γ N G0 (.seq (.region id #[o1,o2,o3,o4,o5,o6,o,p1] false) code) Q E s :=
  fE (Cp [o1,o2,o3,o4,o5,o6] [p1] ho hg hd (h1 _ (fun _ _ h=>h) _))
theorem Fo {gf : FuncId} {fn : Func} {c : Code} {dm : List AV} {xs : List (List AV)} (hf : P.funcs[gf]? = some fn) (hb : fn.body = some c) {n : Nat} (hN : fn.ntmps = n) (JV : fn.results = #[]) (hn : dm.length + 1≤n)
    (h : ∀ (I : Nat→AS→Prop) (l : Nat) (s : AS) (G : Gh),I 0 s→(∀ i x s1,xs[i]? = some x→I i s1→YA P Γ G l x s1 (I (i + 1))) →
      IW P Γ n G c (fun e _ s'=>(e = .normal∨e = .ret)∧I xs.length s') (dE (.v (.func (.yield l) #[] #[]) :: dm)) s) : xx P Γ gf dm xs:=by
  subst hN;intro I l s G W lb vN Sd h0 hs hy;refine callsIn_of_wp hf hb trivial ?_;have Ss:=Rel.entry (N:=fn.ntmps) (args:=.v (.func (.yield l) #[] #[]) :: dm) (vs:=.func (.yield l) #[] #[] :: lb) hs (by simp only [al]; exact ⟨_,_,rfl,by simp [ar],Sd⟩) (by simpa using hn) vN;rw [show (#[.func (.yield l) #[] #[]] ++ lb.toArray : Array Value) = (.func (.yield l) #[] #[] :: lb).toArray from by simp];refine wpIn_mono (h I l s G h0 (fun i x s1 hx hI G1 us W1 hle h2 hu=>hy i x s1 G1 us W1 hx hI hle h2 hu) G _ W (.refl G) Ss) ?_;rintro e a' w' ⟨G',E',s',h1,h2,⟨h3,h4⟩,-⟩;have fin : bodyPost P fn (fun e W'=>(∃ v,e = .returned v)∧∃ G2 s2,G.le G2∧aU Γ G2 s2 W'∧I xs.length s2) .normal a' w':=by
    refine ⟨h2.defers.trans (h1.df.trans vN),.tuple #[],?_,⟨_,rfl⟩,G',s',h1,h2.st,h4⟩;rw [pj,JV];simp
  rcases h3 with rfl | rfl
  · exact fin
  · exact fin
end Go.AM
namespace Go.AM
open Go Go.RowKit
variable {P : Program} {Γ : Nat→List AV} {N : Nat} {rs : List ResultVar} {cO : AV→AS→Prop}
theorem Hw.ghost {c : Code} {E E' : Env} {s s' : AS} (hg : fw Γ N E s E' s') (h : Hw P Γ N rs cO c E' s') : Hw P Γ N rs cO c E s:=by
  intro G a w vN hr;obtain ⟨G1,h1,h2⟩:=hg G a w hr;refine wpIn_mono (h G1 a w (h1.df.trans vN) h2) ?_;rintro e a' w' ⟨he,D,G',E2,s2,k1,k2,k3⟩;exact ⟨he,D,G',E2,s2,h1.trans k1,by rw [← h1.w0,← h1.B]; exact k2,k3⟩
theorem Dm {c : Code} {E : Env} {s : AS} {d o : Nat} {cs : List AV} (hd : E d = .ptr o 0) (ho : s.aJ o = none) (h : Hw P Γ N rs cO c (aG E d (.cX cs)) s) : Hw P Γ N rs cO c E (s.set o cs):=by
  have:=fw.lQ (Γ:=Γ) (N:=N) (E:=E) (s:=s.set o cs) (d:=d) hd (AS.aj _ _ _);rw [AS.drop_set ho] at this;exact h.ghost this
theorem J7 {c : Code} {E : Env} {s s' : AS} (h : AS.tells Γ s s') (k : Hw P Γ N rs cO c E s') : Hw P Γ N rs cO c E s :=
  fun G a w vN hr=>k G a w vN ⟨h G w hr.st,hr.size,hr.tmps,hr.defers⟩
end Go.AM
