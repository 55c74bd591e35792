/- An abstract machine for the model and the rules of its walk, each proved sound over the model; no condition. -/
import Derived.Test.YtcjifoccjlpapaaGreatDoorAMp3
import Derived.ChangeSlices
set_option linter.unusedSimpArgs false
set_option linter.unusedVariables false
namespace Go.AM
open Go Go.RowKit
inductive Ty where
  | int (k : IntKind)
  | bool
  | string
  | slice (sz : Nat) (e : Ty)
  | struct (b : Ty)
  | nil
  | cons (a b : Ty)
mutual
def uv (P : Program) : Ty→TypeId→Prop
  | .int k,t=>P.underlying t = some (.int k)
  | .bool,t=>P.underlying t = some .bool
  | .string,t=>P.underlying t = some .string
  | .slice sz e,t=>∃ e',P.underlying t = some (.slice e')∧P.cellsOf e' = sz∧sz≠0∧uv P e e'
  | .struct b,t=>∃ fs : Array Field,P.underlying t = some (.struct fs)∧xO P b fs.toList 0 (P.cellsOf t)
  | .nil,_=>False
  | .cons _ _,_=>False
def xO (P : Program) : Ty→List Field→Nat→Nat→Prop
  | .nil,fs,o,n=>fs = []∧o = n
  | .cons a b,fs,o,n=>∃ f rest,fs = f :: rest∧f.offset = o∧uv P a f.type∧xO P b rest (o + P.cellsOf f.type) n
  | .int _,_,_,_=>False
  | .bool,_,_,_=>False
  | .string,_,_,_=>False
  | .slice _ _,_,_,_=>False
  | .struct _,_,_,_=>False
end
mutual
def cP : Ty→List AV→Prop
  | .int k,iu=>∃ n,iu = [.v (.int k n)]∧(Lit.int k n).wf = true
  | .bool,iu=>∃ b,iu = [.v (.bool b)]
  | .string,iu=>∃ s : ByteArray,iu = [.v (.string s)]∧s.size≤maxLen
  | .slice sz e,iu=>∃ els : List (List AV),iu = [.sl sz els.length els.flatten .any]∧els.length≤maxLen∧∀ el ∈ els,el.length = sz∧cP e el
  | .struct b,iu=>LC b iu
  | .nil,_=>False
  | .cons _ _,_=>False
def LC : Ty→List AV→Prop
  | .nil,iu=>iu = []
  | .cons a b,iu=>∃ x y,iu = x ++ y∧cP a x∧LC b y
  | .int _,_=>False
  | .bool,_=>False
  | .string,_=>False
  | .slice _ _,_=>False
  | .struct _,_=>False
end
theorem al.one {G : Gh} {x : AV} {u : Value} (h : ar G x u) : al G [x] [u]:=by
  simp only [al]; exact ⟨u,[],rfl,h,rfl⟩
theorem cells?_some {w : World} {base n : Nat} {a : Addr} {cs : List Value} (h : w.cells? base a n = some cs) : cs.length = n∧∀ j u,cs[j]? = some u→w.cell? (a.add j) = some u:=by
  unfold World.cells? at h;split at h
  · have hl:=mapM_some_length h;simp only [List.length_range] at hl;refine ⟨hl,fun j u hj=>?_⟩;have JI : j < cs.length:=(List.getElem?_eq_some_iff.1 hj).1;have hr : (List.range n)[j]? = some j:=(by rw [List.getElem?_range (by omega)]);have:=mapM_some_get h j j hr;rw [this,hj]
  · cases h
theorem add_add (b off i j : Nat) : (⟨b,off,none⟩ : Addr).add (i + j) = ((⟨b,off,none⟩ : Addr).add i).add j:=by
  simp [cH,Nat.add_assoc]
section
variable {P : Program} {H : Type} {enc : TypeId × Value→H} {w : World} {base : Nat} {spare : Nat→Bool} {held : Bool}
theorem ER {c len : Nat} {b off : Nat} {el : Nat→List Value→Prop} {T : List AV→Prop}
    (h : ∀ i,i < len→∃ cs,(cs.length = c∧∀ j u,cs[j]? = some u→w.cell? ((⟨b,off,none⟩ : Addr).add (i * c + j)) = some u)∧∃ iu,al (G0 w) iu cs∧T iu) :
    ∀ m,m≤len→∃ (els : List (List AV)) (vs : List Value),els.length = m∧vs.length = m * c∧al (G0 w) els.flatten vs∧gg (G0 w) b off vs∧∀ el ∈ els,el.length = c∧T el
  | 0,_=>⟨[],[],rfl,by simp,by simp [al],fun j u hj=>by simp at hj,by simp⟩
  | m + 1,hm=>by
    obtain ⟨els,vs,h1,h2,h3,h4,h5⟩:=ER (el:=el) h m (by omega);obtain ⟨cs,⟨k1,k2⟩,iu,k3,k4⟩:=h m (by omega);refine ⟨els ++ [iu],vs ++ cs,by simp [h1],by simp [h2,k1,Nat.add_mul],by simpa using h3.append k3,?_,?_⟩
    · intro j u hj;rcases Nat.lt_or_ge j vs.length with hl | hl
      · rw [List.getElem?_append_left hl] at hj;exact h4 j u hj
      · rw [List.getElem?_append_right hl] at hj;have:=k2 _ _ hj;rw [cH] at this;rw [show off + j = off + (m * c + (j - vs.length)) from by omega];exact this
    · intro e he;rcases List.mem_append.1 he with he | he
      · exact h5 e he
      · simp only [List.mem_singleton] at he;subst he;exact ⟨by rw [k3.length,k1],k4⟩
mutual
theorem yw : ∀ (ty : Ty) {t : TypeId} {cs : List Value} {fuel : Nat} {x : DataW H × List MemPlace},uv P ty t→DataW.trod enc P w base spare held fuel t cs = some x→∃ iu,al (G0 w) iu cs∧cP ty iu
  | .int k,t,cs,fuel,x,ht,h=>by
    simp only [uv] at ht;obtain ⟨n,rfl,_,hw⟩:=DataW.trod_int ht h;exact ⟨[.v (.int k n)],al.one (by simp [ar]),by simp only [cP]; exact ⟨n,rfl,hw⟩⟩
  | .bool,t,cs,fuel,x,ht,h=>by
    simp only [uv] at ht;obtain ⟨n,rfl,_⟩:=DataW.trod_bool ht h;exact ⟨[.v (.bool n)],al.one (by simp [ar]),by simp only [cP]; exact ⟨n,rfl⟩⟩
  | .string,t,cs,fuel,x,ht,h=>by
    simp only [uv] at ht;obtain ⟨s,rfl,_,hw⟩:=DataW.trod_string ht h;exact ⟨[.v (.string s)],al.one (by simp [ar]),by simp only [cP]; exact ⟨s,rfl,hw⟩⟩
  | .slice sz e,t,cs,fuel,x,ht,h=>by
    simp only [uv] at ht;obtain ⟨e',hu,rfl,h0,hte⟩:=ht;rcases DataW.trod_slice hu h with ⟨rfl,rfl⟩ | ⟨a,len,cap,elems,rest,n,_,rfl,rfl,hb,hl,hm,hlen,xh,nV,hns⟩
    · exact ⟨[.sl (P.cellsOf e') 0 [] .any],al.one (by simp only [ar]; exact .inr (.inr ⟨trivial,trivial,by simp,trivial⟩)),by simp only [cP]; exact ⟨[],rfl,by simp,by simp⟩⟩
    · by_cases hz : len = 0
      · subst hz;refine ⟨[.sl (P.cellsOf e') 0 [] .any],al.one ?_,?_⟩
        · simp only [ar];exact .inr (.inl ⟨trivial,trivial,a,cap,rfl,by simp⟩)
        · simp only [cP];exact ⟨[],rfl,by simp,by simp⟩
      · have each : ∀ i,i < len→∃ cs,w.cells? base (a.add (i * P.cellsOf e')) (P.cellsOf e') = some cs∧∃ iu,al (G0 w) iu cs∧cP e iu:=by
          intro i hi;have h1:=xh i hi;rw [List.getElem?_eq_getElem (by omega),Option.bind_eq_some_iff] at h1;obtain ⟨cs,h2,h3⟩:=h1;exact ⟨cs,h2,yw e hte h3⟩
        have QC : a.spot = none:=by
          obtain ⟨cs,h1,_⟩:=each 0 (by omega);obtain ⟨h2,h3⟩:=cells?_some h1;have h4:=h3 0 cs[0] (List.getElem?_eq_getElem (by omega));have:=World.cell?_spot h4;simpa [Addr.add] using this
        obtain ⟨b,off,spot⟩:=a;simp only at QC;subst QC;obtain ⟨els,vs,k1,k2,k3,k4,k5⟩:=ER (w:=w) (b:=b) (off:=off) (c:=P.cellsOf e') (len:=len) (T:=cP e) (el:=fun _ _=>True) (fun i hi=>by
          obtain ⟨cs,h1,h2⟩:=each i hi;obtain ⟨h3,h4⟩:=cells?_some h1;exact ⟨cs,⟨h3,fun j u hj=>by rw [add_add]; exact h4 j u hj⟩,h2⟩) len (Nat.le_refl _)
        refine ⟨[.sl (P.cellsOf e') els.length els.flatten .any],al.one ?_,?_⟩
        · simp only [ar];exact .inl ⟨b,off,cap,vs,by rw [k1],by rw [k3.length,k2,k1],by omega,k3,k4,by simp only [eL]⟩
        · simp only [cP];exact ⟨els,rfl,by omega,k5⟩
  | .struct b,t,cs,fuel,x,ht,h=>by
    simp only [uv] at ht;obtain ⟨fs,hu,hf⟩:=ht;obtain ⟨xs,n,_,_,hc,hl,bT⟩:=DataW.trod_struct hu h;obtain ⟨iu,h1,h2⟩:=IL b (cs:=cs) (fuel:=n) hf hc (fun f T7=>by
      obtain ⟨i,hi⟩:=List.getElem?_of_mem T7;have:=bT i f (by simpa using hi);have KP : i < fs.toList.length:=(List.getElem?_eq_some_iff.1 hi).1;exact ⟨xs[i]'(by simp at KP; omega),by rw [this]; exact List.getElem?_eq_getElem _⟩)
    exact ⟨iu,by simpa using h1,by simpa only [cP] using h2⟩
  | .nil,t,cs,fuel,x,ht,h=>by simp only [uv] at ht
  | .cons _ _,t,cs,fuel,x,ht,h=>by simp only [uv] at ht
theorem IL : ∀ (ty : Ty) {fs : List Field} {o n : Nat} {cs : List Value} {fuel : Nat},xO P ty fs o n→cs.length = n →
    (∀ f ∈ fs,∃ x,DataW.trod enc P w base spare held fuel f.type ((cs.drop f.offset).take (P.cellsOf f.type)) = some x)→∃ iu,al (G0 w) iu (cs.drop o)∧LC ty iu
  | .nil,fs,o,n,cs,fuel,hf,hc,h=>by
    simp only [xO] at hf;obtain ⟨rfl,rfl⟩:=hf;exact ⟨[],by rw [List.drop_eq_nil_of_le (by omega)]; simp [al],by simp only [LC]⟩
  | .cons a b,fs,o,n,cs,fuel,hf,hc,h=>by
    simp only [xO] at hf;obtain ⟨f,rest,rfl,rfl,ht,hr⟩:=hf;obtain ⟨x,hx⟩:=h f (by simp);obtain ⟨iu,h1,h2⟩:=yw a ht hx;obtain ⟨bvs,k1,k2⟩:=IL b (fuel:=fuel) hr hc (fun g hg=>h g (by simp [hg]));refine ⟨iu ++ bvs,?_,by simp only [LC]; exact ⟨iu,bvs,rfl,h2,k2⟩⟩;have:=h1.append k1;rwa [← List.drop_drop,List.take_append_drop] at this
  | .int _,fs,o,n,cs,fuel,hf,hc,h=>by simp only [xO] at hf
  | .bool,fs,o,n,cs,fuel,hf,hc,h=>by simp only [xO] at hf
  | .string,fs,o,n,cs,fuel,hf,hc,h=>by simp only [xO] at hf
  | .slice _ _,fs,o,n,cs,fuel,hf,hc,h=>by simp only [xO] at hf
  | .struct _,fs,o,n,cs,fuel,hf,hc,h=>by simp only [xO] at hf
end
end
theorem cP.bytes {iu : List AV} (h : cP (.slice 1 (.int .u8)) iu) : ∃ l,iu = [ak l .any]∧l.length≤maxLen:=by
  simp only [cP] at h;obtain ⟨els,rfl,hm,bT⟩:=h;have key : ∀ els : List (List AV),(∀ el ∈ els,el.length = 1∧∃ n,el = [.v (.int .u8 n)]∧(Lit.int .u8 n).wf = true)→∃ l : List UInt8,l.length = els.length∧els.flatten = l.map aw:=by
    intro els;induction els with
    | nil=>intro _; exact ⟨[],rfl,rfl⟩
    | cons e els ih =>
      intro h;obtain ⟨l,h1,h2⟩:=ih (fun el xh=>h el (by simp [xh]));obtain ⟨_,n,rfl,hw⟩:=h e (by simp);obtain ⟨m,rfl,hm⟩:=R9 hw;refine ⟨UInt8.ofNat m :: l,by simp [h1],?_⟩;simp only [List.flatten_cons,h2,List.map_cons,List.singleton_append,aw];congr 3;simp [Nat.mod_eq_of_lt (show m < 256 by omega)]
  obtain ⟨l,h1,h2⟩:=key els bT;refine ⟨l,?_,by omega⟩;rw [← h1,h2];rfl
end Go.AM
namespace Go.AM
open Go Go.RowKit
def UU (l : List UInt8) : Nat:=l.foldl (fun n c=>n * 256 + c.toNat) 0
abbrev IM:=List UInt8 × Int
structure xge (s0 s : AS) (p : Nat) (st : IM) : Prop where
  le : s0.le s
  new : s0.aJ p = none
  obj : s.aJ p = some [ak st.1 .any,.v (.int .i64 st.2)]
end Go.AM
namespace Go.AM
open Go Go.RowKit
theorem Cc : Sp.any.isAny = true:=rfl
theorem ES : Sp.no.isAny = false:=rfl
theorem Cd : Sp.new.isAny = false:=rfl
theorem zj : Sp.full.isAny = false:=rfl
theorem Ce (t e : Nat) : (Sp.own t e).isAny = false:=rfl
theorem rn (l : List UInt8) : (ByteArray.mk l.toArray).size = l.length:=rfl
theorem rp (l m : List UInt8) : (ByteArray.mk l.toArray) ++ (ByteArray.mk m.toArray) = ByteArray.mk (l ++ m).toArray:=by
  apply ByteArray.ext;simp
theorem zk (l : List UInt8) (i j : Nat) : (ByteArray.mk l.toArray).extract i j = ByteArray.mk ((l.take j).drop i).toArray:=by
  apply ByteArray.ext;apply Array.ext';simp [List.extract_eq_take_drop,List.drop_take]
theorem ET : (ByteArray.mk #[]) = ByteArray.mk ([] : List UInt8).toArray:=rfl
theorem bz {n : Nat} (h : n < 2 ^ 62) : (IntKind.i64.max < (n : Int)) = False:=by
  have : IntKind.i64.max = 9223372036854775807:=rfl;rw [this];simp;omega
theorem uw (l m : List UInt8) : (l == m) = decide (l = m):=by
  by_cases h : l = m <;> simp [h]
theorem Cf (l : List UInt8) (n : Nat) : List.take n (l.map aw) = (l.take n).map aw:=List.map_take.symm
theorem Cg (l : List UInt8) (n : Nat) : List.drop n (l.map aw) = (l.drop n).map aw:=List.map_drop.symm
theorem Ca.any (l : List UInt8) : Ca (ak l .any) l:=Ca.mk l .any
theorem eH (i : Nat) (h : i < 2 ^ 62) : jn .i64 (i : Int) 1 = ((i + 1 : Nat) : Int):=by
  rw [gF (by omega)];rfl
theorem af {a b : Nat} : ((a : Int) < b) = (a < b):=by simp
theorem LD {n : Nat} (h : n < 2 ^ 62) : ee .i64 (n : Int) = n:=JX (by omega)
theorem kC {n : Nat} (h : n < 2 ^ 62) : ee .u64 (n : Int) = n:=ko n (by omega)
structure xdn (s0 s : AS) (p : Nat) (st : IM) : Prop where
  le : s0.le s
  new : s0.aJ p = none
  obj : s.aJ p = some [.v (.string ⟨st.1.toArray⟩),.v (.int .i64 st.2)]
end Go.AM
namespace Go.AM
open Go Go.RowKit
theorem DN : type_of% (And.intro (And.intro (And.intro (And.intro (And.intro @Hl @IJ) (And.intro @IE (And.intro @B9 @IG))) (And.intro (And.intro @EH @LA) (And.intro @EI (And.intro @sA @IH)))) (And.intro (And.intro (And.intro @EJ @xk) (And.intro @EK (And.intro @II @zb))) (And.intro (And.intro @oA @xl) (And.intro @uj (And.intro @EL @um))))) (And.intro (And.intro (And.intro (And.intro @EM @uo) (And.intro @EN (And.intro @zc @zd))) (And.intro (And.intro @EP @EO) (And.intro @po (And.intro @sB @sC)))) (And.intro (And.intro (And.intro @xm @nD) (And.intro @qu (And.intro @uq @qv))) (And.intro (And.intro @ur @xp) (And.intro @qw (And.intro @y9 @za)))))) :=
  (And.intro (And.intro (And.intro (And.intro (And.intro @Hl @IJ) (And.intro @IE (And.intro @B9 @IG))) (And.intro (And.intro @EH @LA) (And.intro @EI (And.intro @sA @IH)))) (And.intro (And.intro (And.intro @EJ @xk) (And.intro @EK (And.intro @II @zb))) (And.intro (And.intro @oA @xl) (And.intro @uj (And.intro @EL @um))))) (And.intro (And.intro (And.intro (And.intro @EM @uo) (And.intro @EN (And.intro @zc @zd))) (And.intro (And.intro @EP @EO) (And.intro @po (And.intro @sB @sC)))) (And.intro (And.intro (And.intro @xm @nD) (And.intro @qu (And.intro @uq @qv))) (And.intro (And.intro @ur @xp) (And.intro @qw (And.intro @y9 @za))))))
theorem UP : type_of% (And.intro (And.intro (And.intro (And.intro (And.intro (And.intro @yG @AS.cQ) (And.intro @AS.B6 (And.intro @AS.lP @AS.C9))) (And.intro (And.intro @AS.xi @AS.EF) (And.intro @AS.set_set (And.intro @false_imp_iff @Option.some.injEq.{0})))) (And.intro (And.intro (And.intro @Option.map_some.{0,0} @Option.map_none.{0,0}) (And.intro @Option.bind_some.{0,0} (And.intro @Option.isSome_some.{0} @Option.isSome_none.{0}))) (And.intro (And.intro @true_and @and_true) (And.intro @and_self (And.intro @not_true_eq_false @not_false_eq_true))))) (And.intro (And.intro (And.intro (And.intro @or_self @or_false) (And.intro @false_or (And.intro @Nat.zero_add @Nat.add_zero))) (And.intro (And.intro @Nat.zero_mul @Nat.mul_one) (And.intro @Nat.one_mul (And.intro @Nat.mul_zero @Int.toNat_natCast)))) (And.intro (And.intro (And.intro @Nat.zero_ne_one @Nat.one_ne_zero) (And.intro @List.getD_cons_zero.{0} (And.intro @List.getD_cons_succ.{0} @List.length_cons.{0}))) (And.intro (And.intro @List.length_nil.{0} (And.intro @List.set_cons_zero.{0} @List.set_cons_succ.{0})) (And.intro @List.map_cons.{0,0} (And.intro @List.map_nil.{0,0} @List.drop_succ_cons.{0})))))) (And.intro (And.intro (And.intro (And.intro (And.intro @List.drop_zero.{0} @List.take_succ_cons.{0}) (And.intro @List.take_zero.{0} (And.intro @List.getElem?_cons_zero.{0} @List.getElem?_cons_succ.{0}))) (And.intro (And.intro @List.getElem?_toArray.{0} @List.all_cons.{0}) (And.intro @List.all_nil.{0} (And.intro @Bool.and_true @Bool.true_and)))) (And.intro (And.intro (And.intro @Bool.and_self @List.size_toArray.{0}) (And.intro @List.append_assoc.{0} (And.intro @List.nil_append.{0} @List.cons_append.{0}))) (And.intro (And.intro @List.append_nil.{0} (And.intro @beq_self_eq_true.{0} @decide_true)) (And.intro @decide_false (And.intro @gt_iff_lt.{0} @ge_iff_le.{0}))))) (And.intro (And.intro (And.intro (And.intro @Nat.not_lt_zero @List.replicate_zero.{0}) (And.intro @List.length_map.{0,0} (And.intro @List.length_append.{0} @List.map_append.{0,0}))) (And.intro (And.intro @xj @Cc) (And.intro @ES (And.intro @Cd @zj)))) (And.intro (And.intro (And.intro @Ce @qi) (And.intro @qj (And.intro @Cf @Cg))) (And.intro (And.intro @rn (And.intro @rp @zk)) (And.intro @ET (And.intro @ByteArray.toList_mk (And.intro @List.toList_toArray.{0} (And.intro (And.intro Bool.not_true Bool.not_false) (And.intro Bool.false_eq_true Bool.true_eq_false)))))))))) :=
  (And.intro (And.intro (And.intro (And.intro (And.intro (And.intro @yG @AS.cQ) (And.intro @AS.B6 (And.intro @AS.lP @AS.C9))) (And.intro (And.intro @AS.xi @AS.EF) (And.intro @AS.set_set (And.intro @false_imp_iff @Option.some.injEq.{0})))) (And.intro (And.intro (And.intro @Option.map_some.{0,0} @Option.map_none.{0,0}) (And.intro @Option.bind_some.{0,0} (And.intro @Option.isSome_some.{0} @Option.isSome_none.{0}))) (And.intro (And.intro @true_and @and_true) (And.intro @and_self (And.intro @not_true_eq_false @not_false_eq_true))))) (And.intro (And.intro (And.intro (And.intro @or_self @or_false) (And.intro @false_or (And.intro @Nat.zero_add @Nat.add_zero))) (And.intro (And.intro @Nat.zero_mul @Nat.mul_one) (And.intro @Nat.one_mul (And.intro @Nat.mul_zero @Int.toNat_natCast)))) (And.intro (And.intro (And.intro @Nat.zero_ne_one @Nat.one_ne_zero) (And.intro @List.getD_cons_zero.{0} (And.intro @List.getD_cons_succ.{0} @List.length_cons.{0}))) (And.intro (And.intro @List.length_nil.{0} (And.intro @List.set_cons_zero.{0} @List.set_cons_succ.{0})) (And.intro @List.map_cons.{0,0} (And.intro @List.map_nil.{0,0} @List.drop_succ_cons.{0})))))) (And.intro (And.intro (And.intro (And.intro (And.intro @List.drop_zero.{0} @List.take_succ_cons.{0}) (And.intro @List.take_zero.{0} (And.intro @List.getElem?_cons_zero.{0} @List.getElem?_cons_succ.{0}))) (And.intro (And.intro @List.getElem?_toArray.{0} @List.all_cons.{0}) (And.intro @List.all_nil.{0} (And.intro @Bool.and_true @Bool.true_and)))) (And.intro (And.intro (And.intro @Bool.and_self @List.size_toArray.{0}) (And.intro @List.append_assoc.{0} (And.intro @List.nil_append.{0} @List.cons_append.{0}))) (And.intro (And.intro @List.append_nil.{0} (And.intro @beq_self_eq_true.{0} @decide_true)) (And.intro @decide_false (And.intro @gt_iff_lt.{0} @ge_iff_le.{0}))))) (And.intro (And.intro (And.intro (And.intro @Nat.not_lt_zero @List.replicate_zero.{0}) (And.intro @List.length_map.{0,0} (And.intro @List.length_append.{0} @List.map_append.{0,0}))) (And.intro (And.intro @xj @Cc) (And.intro @ES (And.intro @Cd @zj)))) (And.intro (And.intro (And.intro @Ce @qi) (And.intro @qj (And.intro @Cf @Cg))) (And.intro (And.intro @rn (And.intro @rp @zk)) (And.intro @ET (And.intro @ByteArray.toList_mk (And.intro @List.toList_toArray.{0} (And.intro (And.intro Bool.not_true Bool.not_false) (And.intro Bool.false_eq_true Bool.true_eq_false))))))))))
end Go.AM
namespace Go.AM
open Go Go.RowKit
theorem EU {G : Gh} {xs : List AV} {v : Value} (o : ∃ cs,v = .agg cs) (r : al G xs v.cells.toList) : ar G (.agg xs) v:=by
  obtain ⟨cs,rfl⟩:=o;simp only [Value.cells] at r;simp only [ar];exact ⟨cs.toList,by simp,r⟩
theorem al.cons {G : Gh} {x : AV} {u : Value} {xs : List AV} {us : List Value} (h : ar G x u) (k : al G xs us) : al G (x :: xs) (u :: us):=by
  simp only [al]; exact ⟨u,us,rfl,h,k⟩
theorem al.none {G : Gh} : al G [] []:=by simp only [al]
theorem cP.rows {sz : Nat} {e : Ty} {iu : List AV} (h : cP (.slice sz e) iu) : ∃ els : List (List AV),iu = [.sl sz els.length els.flatten .any]∧els.length≤maxLen∧∀ el ∈ els,el.length = sz∧cP e el:=by
  simpa only [cP] using h
theorem zm {sz : Nat} : ∀ {els : List (List AV)} {i : Nat} (h : i < els.length),(∀ el ∈ els,el.length = sz)→(els.flatten.drop (i * sz)).take sz = els[i]
  | [],i,h,_=>by simp at h
  | e :: els,0,h,k=>by
    have:=k e (by simp);simp [List.take_append,this]
  | e :: els,i + 1,h,k=>by
    have he:=k e (by simp);have ih:=zm (els:=els) (i:=i) (by simpa using h) (fun el xh=>k el (by simp [xh]));rw [show (i + 1) * sz = e.length + i * sz by rw [he,Nat.succ_mul,Nat.add_comm],List.flatten_cons,← List.drop_drop,List.drop_left,ih];rfl
end Go.AM
