/- An abstract machine for the model and the rules of its walk, each proved sound over the model; no condition. -/
import Derived.Test.YtbiefppedlodiaaGreatDoorAMp3
import Derived.ChangeSlices
set_option linter.unusedSimpArgs false
set_option linter.unusedVariables false
namespace Go.AM
open Go Go.RowKit
inductive Ty where
  | int (k : IntKind)
  | bool
  | string
  | slice (sz : Nat) (e : Ty)
  | struct (b : Ty)
  | nil
  | cons (a b : Ty)
mutual
def td (P : Program) : Ty→TypeId→Prop
  | .int k,t=>P.underlying t = some (.int k)
  | .bool,t=>P.underlying t = some .bool
  | .string,t=>P.underlying t = some .string
  | .slice sz e,t=>∃ e',P.underlying t = some (.slice e')∧P.cellsOf e' = sz∧sz≠0∧td P e e'
  | .struct b,t=>∃ fs : Array Field,P.underlying t = some (.struct fs)∧wR P b fs.toList 0 (P.cellsOf t)
  | .nil,_=>False
  | .cons _ _,_=>False
def wR (P : Program) : Ty→List Field→Nat→Nat→Prop
  | .nil,fs,o,n=>fs = []∧o = n
  | .cons a b,fs,o,n=>∃ f rest,fs = f :: rest∧f.offset = o∧td P a f.type∧wR P b rest (o + P.cellsOf f.type) n
  | .int _,_,_,_=>False
  | .bool,_,_,_=>False
  | .string,_,_,_=>False
  | .slice _ _,_,_,_=>False
  | .struct _,_,_,_=>False
end
mutual
def dT : Ty→List AV→Prop
  | .int k,j0=>∃ n,j0 = [.v (.int k n)]∧(Lit.int k n).wf = true
  | .bool,j0=>∃ b,j0 = [.v (.bool b)]
  | .string,j0=>∃ s : ByteArray,j0 = [.v (.string s)]∧s.size≤maxLen
  | .slice sz e,j0=>∃ els : List (List AV),j0 = [.sl sz els.length els.flatten .any]∧els.length≤maxLen∧∀ el ∈ els,el.length = sz∧dT e el
  | .struct b,j0=>LF b j0
  | .nil,_=>False
  | .cons _ _,_=>False
def LF : Ty→List AV→Prop
  | .nil,j0=>j0 = []
  | .cons a b,j0=>∃ x y,j0 = x ++ y∧dT a x∧LF b y
  | .int _,_=>False
  | .bool,_=>False
  | .string,_=>False
  | .slice _ _,_=>False
  | .struct _,_=>False
end
theorem ar.one {G : Gh} {x : AV} {u : Value} (h : au G x u) : ar G [x] [u]:=by
  simp only [ar]; exact ⟨u,[],rfl,h,rfl⟩
theorem cells?_some {w : World} {base n : Nat} {a : Addr} {cs : List Value} (h : w.cells? base a n = some cs) : cs.length = n∧∀ j u,cs[j]? = some u→w.cell? (a.add j) = some u:=by
  unfold World.cells? at h;split at h
  · have hl:=mapM_some_length h;simp only [List.length_range] at hl;refine ⟨hl,fun j u hj=>?_⟩;have Eo : j < cs.length:=(List.getElem?_eq_some_iff.1 hj).1;have hr : (List.range n)[j]? = some j:=(by rw [List.getElem?_range (by omega)]);have:=mapM_some_get h j j hr;rw [this,hj]
  · cases h
theorem add_add (b off i j : Nat) : (⟨b,off,none⟩ : Addr).add (i + j) = ((⟨b,off,none⟩ : Addr).add i).add j:=by
  simp [cH,Nat.add_assoc]
section
variable {P : Program} {H : Type} {enc : TypeId × Value→H} {w : World} {base : Nat} {spare : Nat→Bool} {held : Bool}
theorem EG {c len : Nat} {b off : Nat} {el : Nat→List Value→Prop} {T : List AV→Prop}
    (h : ∀ i,i < len→∃ cs,(cs.length = c∧∀ j u,cs[j]? = some u→w.cell? ((⟨b,off,none⟩ : Addr).add (i * c + j)) = some u)∧∃ j0,ar (G0 w) j0 cs∧T j0) :
    ∀ m,m≤len→∃ (els : List (List AV)) (vs : List Value),els.length = m∧vs.length = m * c∧ar (G0 w) els.flatten vs∧gz (G0 w) b off vs∧∀ el ∈ els,el.length = c∧T el
  | 0,_=>⟨[],[],rfl,by simp,by simp [ar],fun j u hj=>by simp at hj,by simp⟩
  | m + 1,hm=>by
    obtain ⟨els,vs,h1,h2,h3,h4,h5⟩:=EG (el:=el) h m (by omega);obtain ⟨cs,⟨k1,k2⟩,j0,k3,k4⟩:=h m (by omega);refine ⟨els ++ [j0],vs ++ cs,by simp [h1],by simp [h2,k1,Nat.add_mul],by simpa using h3.append k3,?_,?_⟩
    · intro j u hj;rcases Nat.lt_or_ge j vs.length with hl | hl
      · rw [List.getElem?_append_left hl] at hj;exact h4 j u hj
      · rw [List.getElem?_append_right hl] at hj;have:=k2 _ _ hj;rw [cH] at this;rw [show off + j = off + (m * c + (j - vs.length)) from by omega];exact this
    · intro e he;rcases List.mem_append.1 he with he | he
      · exact h5 e he
      · simp only [List.mem_singleton] at he;subst he;exact ⟨by rw [k3.length,k1],k4⟩
mutual
theorem xv : ∀ (ty : Ty) {t : TypeId} {cs : List Value} {fuel : Nat} {x : DataW H × List MemPlace},td P ty t→DataW.trod enc P w base spare held fuel t cs = some x→∃ j0,ar (G0 w) j0 cs∧dT ty j0
  | .int k,t,cs,fuel,x,ht,h=>by
    simp only [td] at ht;obtain ⟨n,rfl,_,hw⟩:=DataW.trod_int ht h;exact ⟨[.v (.int k n)],ar.one (by simp [au]),by simp only [dT]; exact ⟨n,rfl,hw⟩⟩
  | .bool,t,cs,fuel,x,ht,h=>by
    simp only [td] at ht;obtain ⟨n,rfl,_⟩:=DataW.trod_bool ht h;exact ⟨[.v (.bool n)],ar.one (by simp [au]),by simp only [dT]; exact ⟨n,rfl⟩⟩
  | .string,t,cs,fuel,x,ht,h=>by
    simp only [td] at ht;obtain ⟨s,rfl,_,hw⟩:=DataW.trod_string ht h;exact ⟨[.v (.string s)],ar.one (by simp [au]),by simp only [dT]; exact ⟨s,rfl,hw⟩⟩
  | .slice sz e,t,cs,fuel,x,ht,h=>by
    simp only [td] at ht;obtain ⟨e',hu,rfl,h0,hte⟩:=ht;rcases DataW.trod_slice hu h with ⟨rfl,rfl⟩ | ⟨a,len,cap,elems,rest,n,_,rfl,rfl,hb,hl,hm,hlen,wQ,rF,hns⟩
    · exact ⟨[.sl (P.cellsOf e') 0 [] .any],ar.one (by simp only [au]; exact .inr (.inr ⟨trivial,trivial,by simp,trivial⟩)),by simp only [dT]; exact ⟨[],rfl,by simp,by simp⟩⟩
    · by_cases hz : len = 0
      · subst hz;refine ⟨[.sl (P.cellsOf e') 0 [] .any],ar.one ?_,?_⟩
        · simp only [au];exact .inr (.inl ⟨trivial,trivial,a,cap,rfl,by simp⟩)
        · simp only [dT];exact ⟨[],rfl,by simp,by simp⟩
      · have each : ∀ i,i < len→∃ cs,w.cells? base (a.add (i * P.cellsOf e')) (P.cellsOf e') = some cs∧∃ j0,ar (G0 w) j0 cs∧dT e j0:=by
          intro i hi;have h1:=wQ i hi;rw [List.getElem?_eq_getElem (by omega),Option.bind_eq_some_iff] at h1;obtain ⟨cs,h2,h3⟩:=h1;exact ⟨cs,h2,xv e hte h3⟩
        have Rp : a.spot = none:=by
          obtain ⟨cs,h1,_⟩:=each 0 (by omega);obtain ⟨h2,h3⟩:=cells?_some h1;have h4:=h3 0 cs[0] (List.getElem?_eq_getElem (by omega));have:=World.cell?_spot h4;simpa [Addr.add] using this
        obtain ⟨b,off,spot⟩:=a;simp only at Rp;subst Rp;obtain ⟨els,vs,k1,k2,k3,k4,k5⟩:=EG (w:=w) (b:=b) (off:=off) (c:=P.cellsOf e') (len:=len) (T:=dT e) (el:=fun _ _=>True) (fun i hi=>by
          obtain ⟨cs,h1,h2⟩:=each i hi;obtain ⟨h3,h4⟩:=cells?_some h1;exact ⟨cs,⟨h3,fun j u hj=>by rw [add_add]; exact h4 j u hj⟩,h2⟩) len (Nat.le_refl _)
        refine ⟨[.sl (P.cellsOf e') els.length els.flatten .any],ar.one ?_,?_⟩
        · simp only [au];exact .inl ⟨b,off,cap,vs,by rw [k1],by rw [k3.length,k2,k1],by omega,k3,k4,by simp only [eA]⟩
        · simp only [dT];exact ⟨els,rfl,by omega,k5⟩
  | .struct b,t,cs,fuel,x,ht,h=>by
    simp only [td] at ht;obtain ⟨fs,hu,hf⟩:=ht;obtain ⟨xs,n,_,_,hc,hl,cu⟩:=DataW.trod_struct hu h;obtain ⟨j0,h1,h2⟩:=ID b (cs:=cs) (fuel:=n) hf hc (fun f Vd=>by
      obtain ⟨i,hi⟩:=List.getElem?_of_mem Vd;have:=cu i f (by simpa using hi);have Pq : i < fs.toList.length:=(List.getElem?_eq_some_iff.1 hi).1;exact ⟨xs[i]'(by simp at Pq; omega),by rw [this]; exact List.getElem?_eq_getElem _⟩)
    exact ⟨j0,by simpa using h1,by simpa only [dT] using h2⟩
  | .nil,t,cs,fuel,x,ht,h=>by simp only [td] at ht
  | .cons _ _,t,cs,fuel,x,ht,h=>by simp only [td] at ht
theorem ID : ∀ (ty : Ty) {fs : List Field} {o n : Nat} {cs : List Value} {fuel : Nat},wR P ty fs o n→cs.length = n →
    (∀ f ∈ fs,∃ x,DataW.trod enc P w base spare held fuel f.type ((cs.drop f.offset).take (P.cellsOf f.type)) = some x)→∃ j0,ar (G0 w) j0 (cs.drop o)∧LF ty j0
  | .nil,fs,o,n,cs,fuel,hf,hc,h=>by
    simp only [wR] at hf;obtain ⟨rfl,rfl⟩:=hf;exact ⟨[],by rw [List.drop_eq_nil_of_le (by omega)]; simp [ar],by simp only [LF]⟩
  | .cons a b,fs,o,n,cs,fuel,hf,hc,h=>by
    simp only [wR] at hf;obtain ⟨f,rest,rfl,rfl,ht,hr⟩:=hf;obtain ⟨x,hx⟩:=h f (by simp);obtain ⟨j0,h1,h2⟩:=xv a ht hx;obtain ⟨bvs,k1,k2⟩:=ID b (fuel:=fuel) hr hc (fun g hg=>h g (by simp [hg]));refine ⟨j0 ++ bvs,?_,by simp only [LF]; exact ⟨j0,bvs,rfl,h2,k2⟩⟩;have:=h1.append k1;rwa [← List.drop_drop,List.take_append_drop] at this
  | .int _,fs,o,n,cs,fuel,hf,hc,h=>by simp only [wR] at hf
  | .bool,fs,o,n,cs,fuel,hf,hc,h=>by simp only [wR] at hf
  | .string,fs,o,n,cs,fuel,hf,hc,h=>by simp only [wR] at hf
  | .slice _ _,fs,o,n,cs,fuel,hf,hc,h=>by simp only [wR] at hf
  | .struct _,fs,o,n,cs,fuel,hf,hc,h=>by simp only [wR] at hf
end
end
theorem dT.bytes {j0 : List AV} (h : dT (.slice 1 (.int .u8)) j0) : ∃ l,j0 = [aj l .any]∧l.length≤maxLen:=by
  simp only [dT] at h;obtain ⟨els,rfl,hm,cu⟩:=h;have key : ∀ els : List (List AV),(∀ el ∈ els,el.length = 1∧∃ n,el = [.v (.int .u8 n)]∧(Lit.int .u8 n).wf = true)→∃ l : List UInt8,l.length = els.length∧els.flatten = l.map ai:=by
    intro els;induction els with
    | nil=>intro _; exact ⟨[],rfl,rfl⟩
    | cons e els ih =>
      intro h;obtain ⟨l,h1,h2⟩:=ih (fun el wQ=>h el (by simp [wQ]));obtain ⟨_,n,rfl,hw⟩:=h e (by simp);obtain ⟨m,rfl,hm⟩:=S9 hw;refine ⟨UInt8.ofNat m :: l,by simp [h1],?_⟩;simp only [List.flatten_cons,h2,List.map_cons,List.singleton_append,ai];congr 3;simp [Nat.mod_eq_of_lt (show m < 256 by omega)]
  obtain ⟨l,h1,h2⟩:=key els cu;refine ⟨l,?_,by omega⟩;rw [← h1,h2];rfl
end Go.AM
namespace Go.AM
open Go Go.RowKit
def eo (l : List UInt8) : Nat:=l.foldl (fun n c=>n * 256 + c.toNat) 0
abbrev aX:=List UInt8 × Int
def cL (n : Int) (st : aX) : List UInt8 × aX :=
  if st.2 = 0 then (if n < 0 then ([],st.1,2) else if (st.1.length : Int) < n then ([],st.1,10) else (st.1.take n.toNat,st.1.drop n.toNat,0)) else ([],st)
def bm (k : Nat) (st : aX) : Nat × aX:=(eo (cL k st).1,(cL k st).2)
def bq (k : Nat) (most : Int) (st : aX) : List UInt8 × aX :=
  if (bm k st).2.2 = 0 then
    (if most < (bm k st).1 then ([],st.1,11) else if (bm k st).2.1.length < (bm k st).1 then ([],st.1,10) else cL (bm k st).1 (bm k st).2)
  else ([],(bm k st).2)
structure dH (s0 s : AS) (p : Nat) (st : aX) : Prop where
  le : s0.le s
  new : s0.aq p = none
  obj : s.aq p = some [aj st.1 .any,.v (.int .i64 st.2)]
theorem dH.put {s0 s : AS} {p : Nat} {st : aX} (h : dH s0 s p st) {l : List UInt8} {e : Int} : dH s0 (s.set p [aj l .any,.v (.int .i64 e)]) p (l,e) :=
  ⟨AS.aB h.le h.new _,h.new,AS.aa _ _ _⟩
theorem dH.Pr {s0 s : AS} {p : Nat} {st : aX} (h : dH s0 s p st) {l : List UInt8} {e : Int} {cs : List AV} (hc : cs = [aj l .any,.v (.int .i64 e)]) : dH s0 (s.set p cs) p (l,e):=hc ▸ h.put
theorem yp (l : List UInt8) (c : UInt8) : eo (l ++ [c]) = eo l * 256 + c.toNat:=by simp [eo]
theorem EH (l : List UInt8) : eo l < 256 ^ l.length:=by
  have key : ∀ (l : List UInt8) (n k : Nat),n < 256 ^ k→l.foldl (fun n c=>n * 256 + c.toNat) n < 256 ^ (k + l.length):=by
    intro l;induction l with
    | nil=>intro n k h; simpa using h
    | cons c l ih =>
      intro n k h;have hc:=c.toNat_lt;have:=ih (n * 256 + c.toNat) (k + 1) (by rw [Nat.pow_succ]; omega);simp only [List.foldl_cons,List.length_cons];rw [show k + (l.length + 1) = k + 1 + l.length from by omega];exact this
  have:=key l 0 0 (by simp);rwa [Nat.zero_add] at this
theorem mI (l : List UInt8) (k : Nat) : eo (l.take k) < 256 ^ k:=by
  refine Nat.lt_of_lt_of_le (EH _) (Nat.pow_le_pow_right (by decide) ?_);rw [List.length_take]; omega
theorem pD (n : Int) (st : aX) : (cL n st).1.length≤st.1.length∧(cL n st).2.1.length≤st.1.length:=by
  unfold cL;split
  · split
    · simp
    · split
      · simp
      · simp; omega
  · simp
theorem yq (k : Nat) (st : aX) : (cL k st).1.length≤k:=by
  unfold cL;split
  · split
    · simp
    · split
      · simp
      · simp; omega
  · simp
theorem uH (k : Nat) (st : aX) : (bm k st).1 < 256 ^ k :=
  Nat.lt_of_lt_of_le (EH _) (Nat.pow_le_pow_right (by decide) (yq k st))
theorem cF (k : Nat) (st : aX) : (bm k st).2.1.length≤st.1.length:=(pD _ _).2
theorem pE (k : Nat) (most : Int) (st : aX) : (bq k most st).1.length≤st.1.length∧(bq k most st).2.1.length≤st.1.length:=by
  have h1:=cF k st;have h2:=pD (bm k st).1 (bm k st).2;unfold bq;split
  · split
    · simp
    · split
      · simp
      · omega
  · simp; omega
theorem GX (n : Nat) (c : UInt8) (hn : n < 2 ^ 56) : Gy .u64 (ko .u64 (n : Int) 8) (cB .u64 (c.toNat : Int)) = ((n * 256 + c.toNat : Nat) : Int):=by
  have hc:=c.toNat_lt;have h1 : ko .u64 (n : Int) (8 : Int) = ((n * 256 : Nat) : Int):=by
    have:=rN (k:=.u64) rfl n 8;rw [show ((8 : Nat) : Int) = 8 from rfl] at this;rw [this];simp only [IntKind.bits];rw [Nat.mod_eq_of_lt (by simp; omega)];simp
  have h2 : cB .u64 (c.toNat : Int) = (c.toNat : Int):=gD _ (by omega);rw [h1,h2,Bw (k:=.u64) rfl _ _ (by simp only [IntKind.bits]; omega) (by simp only [IntKind.bits]; omega)];congr 1;have:=Nat.two_pow_add_eq_or_of_lt (i:=8) (b:=c.toNat) (by omega) n;rw [show n * 256 = 2 ^ 8 * n from by omega,← this]
end Go.AM
namespace Go.AM
open Go Go.RowKit
theorem BA : Sp.any.isAny = true:=rfl
theorem EI : Sp.no.isAny = false:=rfl
theorem BB : Sp.new.isAny = false:=rfl
theorem yr : Sp.full.isAny = false:=rfl
theorem BC (t e : Nat) : (Sp.own t e).isAny = false:=rfl
theorem cp (l : List UInt8) : (ByteArray.mk l.toArray).size = l.length:=rfl
theorem qq (l m : List UInt8) : (ByteArray.mk l.toArray) ++ (ByteArray.mk m.toArray) = ByteArray.mk (l ++ m).toArray:=by
  apply ByteArray.ext;simp
theorem gR (l : List UInt8) (i j : Nat) : (ByteArray.mk l.toArray).extract i j = ByteArray.mk ((l.take j).drop i).toArray:=by
  apply ByteArray.ext;apply Array.ext';simp [List.extract_eq_take_drop,List.drop_take]
theorem EJ : (ByteArray.mk #[]) = ByteArray.mk ([] : List UInt8).toArray:=rfl
theorem dO {n : Nat} (h : n < 2 ^ 62) : (IntKind.i64.max < (n : Int)) = False:=by
  have : IntKind.i64.max = 9223372036854775807:=rfl;rw [this];simp;omega
theorem LG (l m : List UInt8) : (l == m) = decide (l = m):=by
  by_cases h : l = m <;> simp [h]
theorem BD (l : List UInt8) (n : Nat) : List.take n (l.map ai) = (l.take n).map ai:=List.map_take.symm
theorem BF (l : List UInt8) (n : Nat) : List.drop n (l.map ai) = (l.drop n).map ai:=List.map_drop.symm
theorem EK {n : Nat} {cs : List AV} {sp : Sp} {m : List UInt8} (h1 : n = m.length) (h2 : cs = m.map ai) : AV.sl 1 n cs sp = aj m sp:=by subst h1; subst h2; rfl
theorem yn.of {n : Nat} {cs : List AV} {sp : Sp} {m : List UInt8} (h1 : n = m.length) (h2 : cs = m.map ai) : yn (.sl 1 n cs sp) m:=by subst h1; subst h2; exact yn.mk m sp
theorem yn.any (l : List UInt8) : yn (aj l .any) l:=yn.mk l .any
theorem Ps {α : Type} {l : List α} {i : Nat} (h : i < l.length) : (l.drop i).take 1 = [l[i]]:=by
  rw [List.drop_eq_getElem_cons h];rfl
theorem LH {l : List UInt8} {i : Nat} (h : i < l.length) : (((l.drop i).take 1).map ai) = [ai l[i]]:=by rw [Ps h]; rfl
theorem eE (i : Nat) (h : i < 2 ^ 62) : eu .i64 (i : Int) 1 = ((i + 1 : Nat) : Int):=by
  rw [gC (by omega)];rfl
theorem ax {a b : Nat} : ((a : Int) < b) = (a < b):=by simp
theorem eU (x : Int) (h : x = 0) : (x != 0) = false:=by subst h; rfl
theorem fL (x : Int) (h : x≠0) : (x != 0) = true:=by simpa using h
theorem EL (x : Int) (h : x = 0) : (x == 0) = true:=by subst h; rfl
theorem CK (x : Int) (h : x≠0) : (x == 0) = false:=by simpa using h
theorem Ta (l : List UInt8) (i : Nat) (h : i < l.length) : (ByteArray.mk l.toArray)[i]? = some l[i]:=by
  rw [getElem?_pos (ByteArray.mk l.toArray) i (by simpa [cp] using h)];rfl
theorem te {k n : Nat} {l : List UInt8} (h : n < 256 ^ k) : bf k (n : Int) (l,false) = (l ++ be k n,false):=by
  unfold bf;rw [if_pos]
  · rfl
  · refine ⟨by omega,?_⟩;have e : (2 : Int) ^ (8 * k) = ((256 ^ k : Nat) : Int):=(by rw [show (256 : Nat) = 2 ^ 8 from rfl,← Nat.pow_mul]; push_cast; rfl);rw [e];exact Int.ofNat_lt.2 h
theorem vU {k : Nat} {m l : List UInt8} (h : m.length < 256 ^ k) : dj k m (l,false) = (l ++ be k m.length ++ m,false):=by
  unfold dj;rw [te h];rfl
theorem yt {n : Nat} (h : n < 2 ^ 62) : cB .i64 (n : Int) = n:=uF (by omega)
theorem tf {n : Nat} (h : n < 2 ^ 62) : cB .u64 (n : Int) = n:=gD n (by omega)
structure iT (s0 s : AS) (p : Nat) (st : aX) : Prop where
  le : s0.le s
  new : s0.aq p = none
  obj : s.aq p = some [.v (.string ⟨st.1.toArray⟩),.v (.int .i64 st.2)]
theorem iT.put {s0 s : AS} {p : Nat} {st : aX} (h : iT s0 s p st) {l : List UInt8} {e : Int} : iT s0 (s.set p [.v (.string ⟨l.toArray⟩),.v (.int .i64 e)]) p (l,e) :=
  ⟨AS.aB h.le h.new _,h.new,AS.aa _ _ _⟩
theorem iT.Pr {s0 s : AS} {p : Nat} {st : aX} (h : iT s0 s p st) {l : List UInt8} {e : Int} {cs : List AV} (hc : cs = [.v (.string ⟨l.toArray⟩),.v (.int .i64 e)]) : iT s0 (s.set p cs) p (l,e):=hc ▸ h.put
theorem vV {n : Int} {l : List UInt8} {e : Int} (h : e≠0) : cL n (l,e) = ([],l,e):=by unfold cL; exact if_neg h
theorem EM {n : Int} {l : List UInt8} (h : n < 0) : cL n (l,0) = ([],l,2):=by unfold cL; exact (if_pos rfl).trans (if_pos h)
theorem qX {n : Int} {l : List UInt8} (h : ¬ n < 0) (k : (l.length : Int) < n) : cL n (l,0) = ([],l,10):=by unfold cL; exact (if_pos rfl).trans ((if_neg h).trans (if_pos k))
theorem rP {m : Nat} {l : List UInt8} (k : m≤l.length) : cL m (l,0) = (l.take m,l.drop m,0):=by unfold cL; exact (if_pos rfl).trans ((if_neg (by omega)).trans (if_neg (by simp only; omega)))
theorem yu {k : Nat} {l : List UInt8} {e : Int} (h : e≠0) : bm k (l,e) = (0,l,e):=by unfold bm; rw [vV h]; rfl
theorem tg {k : Nat} {l : List UInt8} (h : l.length < k) : bm k (l,0) = (0,l,10):=by unfold bm; rw [qX (by omega) (by omega)]; rfl
theorem qu {k : Nat} {l : List UInt8} (h : k≤l.length) : bm k (l,0) = (eo (l.take k),l.drop k,0):=by unfold bm; rw [rP h]
theorem EN {k : Nat} {most : Int} {l : List UInt8} {e : Int} (h : e≠0) : bq k most (l,e) = ([],l,e):=by unfold bq; rw [yu h]; exact if_neg h
theorem As {k : Nat} {most : Int} {l : List UInt8} (h : l.length < k) : bq k most (l,0) = ([],l,10):=by unfold bq; rw [tg h]; exact if_neg (show ¬ (10 : Int) = 0 by decide)
theorem CM {k : Nat} {most : Int} {l : List UInt8} (h : k≤l.length) (h2 : most < (eo (l.take k) : Int)) : bq k most (l,0) = ([],l,11):=by unfold bq; rw [qu h]; exact (if_pos rfl).trans (if_pos h2)
theorem CN {k : Nat} {most : Int} {l : List UInt8} (h : k≤l.length) (h2 : ¬ most < (eo (l.take k) : Int)) (h3 : l.length - k < eo (l.take k)) : bq k most (l,0) = ([],l,10):=by
  unfold bq; rw [qu h]; exact (if_pos rfl).trans ((if_neg h2).trans (if_pos (by simpa using h3)))
theorem GY {k : Nat} {most : Int} {l : List UInt8} (h : k≤l.length) (h2 : ¬ most < (eo (l.take k) : Int)) (h3 : ¬ l.length - k < eo (l.take k)) :
    bq k most (l,0) = ((l.take (k + eo (l.take k))).drop k,l.drop (k + eo (l.take k)),0):=by
  unfold bq;rw [qu h];refine (if_pos rfl).trans ((if_neg h2).trans ((if_neg (by simpa using h3)).trans ?_));simp only;rw [rP (by simpa using h3),List.drop_take,List.drop_drop,Nat.add_sub_cancel_left]
end Go.AM
namespace Go.AM
open Go Go.RowKit
theorem DN : type_of% (And.intro (And.intro (And.intro (And.intro (And.intro @GU @IC) (And.intro @Iy (And.intro @Bx @Iz))) (And.intro (And.intro @Ex @LC) (And.intro @Ey (And.intro @qU @IA)))) (And.intro (And.intro (And.intro @Ez @vO) (And.intro @EA (And.intro @IB @yf))) (And.intro (And.intro @mZ @vP) (And.intro @sX (And.intro @EB @sY))))) (And.intro (And.intro (And.intro (And.intro @EC @sZ) (And.intro @ED (And.intro @yg @yh))) (And.intro (And.intro @EF @EE) (And.intro @nP (And.intro @qV @qW)))) (And.intro (And.intro (And.intro @vQ @mj) (And.intro @pA (And.intro @ta @pB))) (And.intro (And.intro @tb @vR) (And.intro @pC (And.intro @yc @yd)))))) :=
  (And.intro (And.intro (And.intro (And.intro (And.intro @GU @IC) (And.intro @Iy (And.intro @Bx @Iz))) (And.intro (And.intro @Ex @LC) (And.intro @Ey (And.intro @qU @IA)))) (And.intro (And.intro (And.intro @Ez @vO) (And.intro @EA (And.intro @IB @yf))) (And.intro (And.intro @mZ @vP) (And.intro @sX (And.intro @EB @sY))))) (And.intro (And.intro (And.intro (And.intro @EC @sZ) (And.intro @ED (And.intro @yg @yh))) (And.intro (And.intro @EF @EE) (And.intro @nP (And.intro @qV @qW)))) (And.intro (And.intro (And.intro @vQ @mj) (And.intro @pA (And.intro @ta @pB))) (And.intro (And.intro @tb @vR) (And.intro @pC (And.intro @yc @yd))))))
theorem UP : type_of% (And.intro (And.intro (And.intro (And.intro (And.intro (And.intro @xI @AS.hM) (And.intro @AS.Bs (And.intro @AS.qo @AS.Ix))) (And.intro (And.intro @AS.vN @AS.Ew) (And.intro @AS.set_set (And.intro @false_imp_iff @Option.some.injEq.{0})))) (And.intro (And.intro (And.intro @Option.map_some.{0,0} @Option.map_none.{0,0}) (And.intro @Option.bind_some.{0,0} (And.intro @Option.isSome_some.{0} @Option.isSome_none.{0}))) (And.intro (And.intro @true_and @and_true) (And.intro @and_self (And.intro @not_true_eq_false @not_false_eq_true))))) (And.intro (And.intro (And.intro (And.intro @or_self @or_false) (And.intro @false_or (And.intro @Nat.zero_add @Nat.add_zero))) (And.intro (And.intro @Nat.zero_mul @Nat.mul_one) (And.intro @Nat.one_mul (And.intro @Nat.mul_zero @Int.toNat_natCast)))) (And.intro (And.intro (And.intro @Nat.zero_ne_one @Nat.one_ne_zero) (And.intro @List.getD_cons_zero.{0} (And.intro @List.getD_cons_succ.{0} @List.length_cons.{0}))) (And.intro (And.intro @List.length_nil.{0} (And.intro @List.set_cons_zero.{0} @List.set_cons_succ.{0})) (And.intro @List.map_cons.{0,0} (And.intro @List.map_nil.{0,0} @List.drop_succ_cons.{0})))))) (And.intro (And.intro (And.intro (And.intro (And.intro @List.drop_zero.{0} @List.take_succ_cons.{0}) (And.intro @List.take_zero.{0} (And.intro @List.getElem?_cons_zero.{0} @List.getElem?_cons_succ.{0}))) (And.intro (And.intro @List.getElem?_toArray.{0} @List.all_cons.{0}) (And.intro @List.all_nil.{0} (And.intro @Bool.and_true @Bool.true_and)))) (And.intro (And.intro (And.intro @Bool.and_self @List.size_toArray.{0}) (And.intro @List.append_assoc.{0} (And.intro @List.nil_append.{0} @List.cons_append.{0}))) (And.intro (And.intro @List.append_nil.{0} (And.intro @beq_self_eq_true.{0} @decide_true)) (And.intro @decide_false (And.intro @gt_iff_lt.{0} @ge_iff_le.{0}))))) (And.intro (And.intro (And.intro (And.intro @Nat.not_lt_zero @List.replicate_zero.{0}) (And.intro @List.length_map.{0,0} (And.intro @List.length_append.{0} @List.map_append.{0,0}))) (And.intro (And.intro @pz @BA) (And.intro @EI (And.intro @BB @yr)))) (And.intro (And.intro (And.intro @BC @fw) (And.intro @eB (And.intro @BD @BF))) (And.intro (And.intro @cp (And.intro @qq @gR)) (And.intro @EJ (And.intro @ByteArray.toList_mk (And.intro @List.toList_toArray.{0} (And.intro (And.intro Bool.not_true Bool.not_false) (And.intro Bool.false_eq_true Bool.true_eq_false)))))))))) :=
  (And.intro (And.intro (And.intro (And.intro (And.intro (And.intro @xI @AS.hM) (And.intro @AS.Bs (And.intro @AS.qo @AS.Ix))) (And.intro (And.intro @AS.vN @AS.Ew) (And.intro @AS.set_set (And.intro @false_imp_iff @Option.some.injEq.{0})))) (And.intro (And.intro (And.intro @Option.map_some.{0,0} @Option.map_none.{0,0}) (And.intro @Option.bind_some.{0,0} (And.intro @Option.isSome_some.{0} @Option.isSome_none.{0}))) (And.intro (And.intro @true_and @and_true) (And.intro @and_self (And.intro @not_true_eq_false @not_false_eq_true))))) (And.intro (And.intro (And.intro (And.intro @or_self @or_false) (And.intro @false_or (And.intro @Nat.zero_add @Nat.add_zero))) (And.intro (And.intro @Nat.zero_mul @Nat.mul_one) (And.intro @Nat.one_mul (And.intro @Nat.mul_zero @Int.toNat_natCast)))) (And.intro (And.intro (And.intro @Nat.zero_ne_one @Nat.one_ne_zero) (And.intro @List.getD_cons_zero.{0} (And.intro @List.getD_cons_succ.{0} @List.length_cons.{0}))) (And.intro (And.intro @List.length_nil.{0} (And.intro @List.set_cons_zero.{0} @List.set_cons_succ.{0})) (And.intro @List.map_cons.{0,0} (And.intro @List.map_nil.{0,0} @List.drop_succ_cons.{0})))))) (And.intro (And.intro (And.intro (And.intro (And.intro @List.drop_zero.{0} @List.take_succ_cons.{0}) (And.intro @List.take_zero.{0} (And.intro @List.getElem?_cons_zero.{0} @List.getElem?_cons_succ.{0}))) (And.intro (And.intro @List.getElem?_toArray.{0} @List.all_cons.{0}) (And.intro @List.all_nil.{0} (And.intro @Bool.and_true @Bool.true_and)))) (And.intro (And.intro (And.intro @Bool.and_self @List.size_toArray.{0}) (And.intro @List.append_assoc.{0} (And.intro @List.nil_append.{0} @List.cons_append.{0}))) (And.intro (And.intro @List.append_nil.{0} (And.intro @beq_self_eq_true.{0} @decide_true)) (And.intro @decide_false (And.intro @gt_iff_lt.{0} @ge_iff_le.{0}))))) (And.intro (And.intro (And.intro (And.intro @Nat.not_lt_zero @List.replicate_zero.{0}) (And.intro @List.length_map.{0,0} (And.intro @List.length_append.{0} @List.map_append.{0,0}))) (And.intro (And.intro @pz @BA) (And.intro @EI (And.intro @BB @yr)))) (And.intro (And.intro (And.intro @BC @fw) (And.intro @eB (And.intro @BD @BF))) (And.intro (And.intro @cp (And.intro @qq @gR)) (And.intro @EJ (And.intro @ByteArray.toList_mk (And.intro @List.toList_toArray.{0} (And.intro (And.intro Bool.not_true Bool.not_false) (And.intro Bool.false_eq_true Bool.true_eq_false))))))))))
end Go.AM
namespace Go.AM
open Go Go.RowKit
theorem GZ {G : Gh} {x : AV} {v : Value} (o : ∃ a l c,v = .slice a l c) (r : ar G [x] v.cells.toList) : au G x v:=by
  obtain ⟨a,l,c,rfl⟩:=o;simp only [Value.cells,ar] at r;obtain ⟨u,us,h,k,rfl⟩:=r;cases h;exact k
theorem LI {G : Gh} {xs : List AV} {v : Value} (o : ∃ cs,v = .agg cs) (r : ar G xs v.cells.toList) : au G (.agg xs) v:=by
  obtain ⟨cs,rfl⟩:=o;simp only [Value.cells] at r;simp only [au];exact ⟨cs.toList,by simp,r⟩
theorem ar.cons {G : Gh} {x : AV} {u : Value} {xs : List AV} {us : List Value} (h : au G x u) (k : ar G xs us) : ar G (x :: xs) (u :: us):=by
  simp only [ar]; exact ⟨u,us,rfl,h,k⟩
theorem ar.none {G : Gh} : ar G [] []:=by simp only [ar]
theorem dT.rows {sz : Nat} {e : Ty} {j0 : List AV} (h : dT (.slice sz e) j0) : ∃ els : List (List AV),j0 = [.sl sz els.length els.flatten .any]∧els.length≤maxLen∧∀ el ∈ els,el.length = sz∧dT e el:=by
  simpa only [dT] using h
theorem yv {sz : Nat} : ∀ {els : List (List AV)} {i : Nat} (h : i < els.length),(∀ el ∈ els,el.length = sz)→(els.flatten.drop (i * sz)).take sz = els[i]
  | [],i,h,_=>by simp at h
  | e :: els,0,h,k=>by
    have:=k e (by simp);simp [List.take_append,this]
  | e :: els,i + 1,h,k=>by
    have he:=k e (by simp);have ih:=yv (els:=els) (i:=i) (by simpa using h) (fun el wQ=>k el (by simp [wQ]));rw [show (i + 1) * sz = e.length + i * sz by rw [he,Nat.succ_mul,Nat.add_comm],List.flatten_cons,← List.drop_drop,List.drop_left,ih];rfl
end Go.AM
