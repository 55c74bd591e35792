/- An abstract machine for the model: abstract values, their relation to worlds, and the rules of its walk, each proved sound over the model; no condition. -/
import Derived.Test.YtfbbckndpkmfcaaAMp3
import Derived.ChangeSlices
set_option linter.unusedSimpArgs false
set_option linter.unusedVariables false
set_option autoImplicit false
namespace Go.AM
open Go Go.RowKit
inductive Ty where
  | int (k : IntKind)
  | bool
  | string
  | slice (sz : Nat) (e : Ty)
  | struct (b : Ty)
  | nil
  | cons (a b : Ty)
mutual
def TyOf (P : Program) : Ty→TypeId→Prop
  | .int k,t=>P.underlying t = some (.int k)
  | .bool,t=>P.underlying t = some .bool
  | .string,t=>P.underlying t = some .string
  | .slice sz e,t=>∃ e',P.underlying t = some (.slice e')∧P.cellsOf e' = sz∧sz≠0∧TyOf P e e'
  | .struct b,t=>∃ fs : Array Field,P.underlying t = some (.struct fs)∧FsOf P b fs.toList 0 (P.cellsOf t)
  | .nil,_=>False
  | .cons _ _,_=>False
def FsOf (P : Program) : Ty→List Field→Nat→Nat→Prop
  | .nil,fs,o,n=>fs = []∧o = n
  | .cons a b,fs,o,n=>∃ f rest,fs = f :: rest∧f.offset = o∧TyOf P a f.type∧FsOf P b rest (o + P.cellsOf f.type) n
  | .int _,_,_,_=>False
  | .bool,_,_,_=>False
  | .string,_,_,_=>False
  | .slice _ _,_,_,_=>False
  | .struct _,_,_,_=>False
end
mutual
def IsTy : Ty→List AV→Prop
  | .int k,avs=>∃ n,avs = [.v (.int k n)]∧(Lit.int k n).wf = true
  | .bool,avs=>∃ b,avs = [.v (.bool b)]
  | .string,avs=>∃ s : ByteArray,avs = [.v (.string s)]∧s.size≤maxLen
  | .slice sz e,avs=>∃ els : List (List AV),avs = [.sl sz els.length els.flatten .any]∧els.length≤maxLen∧∀ el ∈ els,el.length = sz∧IsTy e el
  | .struct b,avs=>IsF b avs
  | .nil,_=>False
  | .cons _ _,_=>False
def IsF : Ty→List AV→Prop
  | .nil,avs=>avs = []
  | .cons a b,avs=>∃ x y,avs = x ++ y∧IsTy a x∧IsF b y
  | .int _,_=>False
  | .bool,_=>False
  | .string,_=>False
  | .slice _ _,_=>False
  | .struct _,_=>False
end
theorem VRels.one {G : Gh} {x : AV} {u : Value} (h : VRel G x u) : VRels G [x] [u]:=by
  simp only [VRels]; exact ⟨u,[],rfl,h,rfl⟩
theorem cells?_some {w : World} {base n : Nat} {a : Addr} {cs : List Value} (h : w.cells? base a n = some cs) : cs.length = n∧∀ j u,cs[j]? = some u→w.cell? (a.add j) = some u:=by
  unfold World.cells? at h
  split at h
  · have hl:=mapM_some_length h
    simp only [List.length_range] at hl
    refine ⟨hl,fun j u hj=>?_⟩
    have hjl : j < cs.length:=(List.getElem?_eq_some_iff.1 hj).1
    have hr : (List.range n)[j]? = some j:=by rw [List.getElem?_range (by omega)]
    have:=mapM_some_get h j j hr
    rw [this,hj]
  · cases h
theorem add_add (b off i j : Nat) : (⟨b,off,none⟩ : Addr).add (i + j) = ((⟨b,off,none⟩ : Addr).add i).add j:=by
  simp [add_spot,Nat.add_assoc]
section
variable {P : Program} {H : Type} {enc : TypeId × Value→H} {w : World} {base : Nat} {spare : Nat→Bool} {held : Bool}
theorem open_els {c len : Nat} {b off : Nat} {el : Nat→List Value→Prop} {T : List AV→Prop}
    (h : ∀ i,i < len→∃ cs,(cs.length = c∧∀ j u,cs[j]? = some u→w.cell? ((⟨b,off,none⟩ : Addr).add (i * c + j)) = some u)∧∃ avs,VRels (G0 w) avs cs∧T avs) :
    ∀ m,m≤len→∃ (els : List (List AV)) (vs : List Value),els.length = m∧vs.length = m * c∧VRels (G0 w) els.flatten vs∧RoAt (G0 w) b off vs∧∀ el ∈ els,el.length = c∧T el
  | 0,_=>⟨[],[],rfl,by simp,by simp [VRels],fun j u hj=>by simp at hj,by simp⟩
  | m + 1,hm=>by
    obtain ⟨els,vs,h1,h2,h3,h4,h5⟩:=open_els (el:=el) h m (by omega)
    obtain ⟨cs,⟨k1,k2⟩,avs,k3,k4⟩:=h m (by omega)
    refine ⟨els ++ [avs],vs ++ cs,by simp [h1],by simp [h2,k1,Nat.add_mul],by simpa using h3.append k3,?_,?_⟩
    · intro j u hj
      rcases Nat.lt_or_ge j vs.length with hl | hl
      · rw [List.getElem?_append_left hl] at hj
        exact h4 j u hj
      · rw [List.getElem?_append_right hl] at hj
        have:=k2 _ _ hj
        rw [add_spot] at this
        rw [show off + j = off + (m * c + (j - vs.length)) from by omega]
        exact this
    · intro e he
      rcases List.mem_append.1 he with he | he
      · exact h5 e he
      · simp only [List.mem_singleton] at he
        subst he
        exact ⟨by rw [k3.length,k1],k4⟩
mutual
theorem open_ty : ∀ (ty : Ty) {t : TypeId} {cs : List Value} {fuel : Nat} {x : DataW H × List MemPlace},TyOf P ty t→DataW.trod enc P w base spare held fuel t cs = some x→∃ avs,VRels (G0 w) avs cs∧IsTy ty avs
  | .int k,t,cs,fuel,x,ht,h=>by
    simp only [TyOf] at ht
    obtain ⟨n,rfl,_,hw⟩:=DataW.trod_int ht h
    exact ⟨[.v (.int k n)],VRels.one (by simp [VRel]),by simp only [IsTy]; exact ⟨n,rfl,hw⟩⟩
  | .bool,t,cs,fuel,x,ht,h=>by
    simp only [TyOf] at ht
    obtain ⟨n,rfl,_⟩:=DataW.trod_bool ht h
    exact ⟨[.v (.bool n)],VRels.one (by simp [VRel]),by simp only [IsTy]; exact ⟨n,rfl⟩⟩
  | .string,t,cs,fuel,x,ht,h=>by
    simp only [TyOf] at ht
    obtain ⟨s,rfl,_,hw⟩:=DataW.trod_string ht h
    exact ⟨[.v (.string s)],VRels.one (by simp [VRel]),by simp only [IsTy]; exact ⟨s,rfl,hw⟩⟩
  | .slice sz e,t,cs,fuel,x,ht,h=>by
    simp only [TyOf] at ht
    obtain ⟨e',hu,rfl,h0,hte⟩:=ht
    rcases DataW.trod_slice hu h with ⟨rfl,rfl⟩ | ⟨a,len,cap,elems,rest,n,_,rfl,rfl,hb,hl,hm,hlen,hel,hsp,hns⟩
    · exact ⟨[.sl (P.cellsOf e') 0 [] .any],VRels.one (by simp only [VRel]; exact .inr (.inr ⟨trivial,trivial,by simp,trivial⟩)),by simp only [IsTy]; exact ⟨[],rfl,by simp,by simp⟩⟩
    · by_cases hz : len = 0
      · subst hz
        refine ⟨[.sl (P.cellsOf e') 0 [] .any],VRels.one ?_,?_⟩
        · simp only [VRel]
          exact .inr (.inl ⟨trivial,trivial,a,cap,rfl,by simp⟩)
        · simp only [IsTy]
          exact ⟨[],rfl,by simp,by simp⟩
      · have each : ∀ i,i < len→∃ cs,w.cells? base (a.add (i * P.cellsOf e')) (P.cellsOf e') = some cs∧∃ avs,VRels (G0 w) avs cs∧IsTy e avs:=by
          intro i hi
          have h1:=hel i hi
          rw [List.getElem?_eq_getElem (by omega),Option.bind_eq_some_iff] at h1
          obtain ⟨cs,h2,h3⟩:=h1
          exact ⟨cs,h2,open_ty e hte h3⟩
        have hspot : a.spot = none:=by
          obtain ⟨cs,h1,_⟩:=each 0 (by omega)
          obtain ⟨h2,h3⟩:=cells?_some h1
          have h4:=h3 0 cs[0] (List.getElem?_eq_getElem (by omega))
          have:=World.cell?_spot h4
          simpa [Addr.add] using this
        obtain ⟨b,off,spot⟩:=a
        simp only at hspot
        subst hspot
        obtain ⟨els,vs,k1,k2,k3,k4,k5⟩:=open_els (w:=w) (b:=b) (off:=off) (c:=P.cellsOf e') (len:=len) (T:=IsTy e) (el:=fun _ _=>True) (fun i hi=>by
          obtain ⟨cs,h1,h2⟩:=each i hi
          obtain ⟨h3,h4⟩:=cells?_some h1
          exact ⟨cs,⟨h3,fun j u hj=>by rw [add_add]; exact h4 j u hj⟩,h2⟩) len (Nat.le_refl _)
        refine ⟨[.sl (P.cellsOf e') els.length els.flatten .any],VRels.one ?_,?_⟩
        · simp only [VRel]
          exact .inl ⟨b,off,cap,vs,by rw [k1],by rw [k3.length,k2,k1],by omega,k3,k4,by simp only [SpRel]⟩
        · simp only [IsTy]
          exact ⟨els,rfl,by omega,k5⟩
  | .struct b,t,cs,fuel,x,ht,h=>by
    simp only [TyOf] at ht
    obtain ⟨fs,hu,hf⟩:=ht
    obtain ⟨xs,n,_,_,hc,hl,hall⟩:=DataW.trod_struct hu h
    obtain ⟨avs,h1,h2⟩:=open_fs b (cs:=cs) (fuel:=n) hf hc (fun f hf'=>by
      obtain ⟨i,hi⟩:=List.getElem?_of_mem hf'
      have:=hall i f (by simpa using hi)
      have hil : i < fs.toList.length:=(List.getElem?_eq_some_iff.1 hi).1
      exact ⟨xs[i]'(by simp at hil; omega),by rw [this]; exact List.getElem?_eq_getElem _⟩)
    exact ⟨avs,by simpa using h1,by simpa only [IsTy] using h2⟩
  | .nil,t,cs,fuel,x,ht,h=>by simp only [TyOf] at ht
  | .cons _ _,t,cs,fuel,x,ht,h=>by simp only [TyOf] at ht
theorem open_fs : ∀ (ty : Ty) {fs : List Field} {o n : Nat} {cs : List Value} {fuel : Nat},FsOf P ty fs o n→cs.length = n →
    (∀ f ∈ fs,∃ x,DataW.trod enc P w base spare held fuel f.type ((cs.drop f.offset).take (P.cellsOf f.type)) = some x)→∃ avs,VRels (G0 w) avs (cs.drop o)∧IsF ty avs
  | .nil,fs,o,n,cs,fuel,hf,hc,h=>by
    simp only [FsOf] at hf
    obtain ⟨rfl,rfl⟩:=hf
    exact ⟨[],by rw [List.drop_eq_nil_of_le (by omega)]; simp [VRels],by simp only [IsF]⟩
  | .cons a b,fs,o,n,cs,fuel,hf,hc,h=>by
    simp only [FsOf] at hf
    obtain ⟨f,rest,rfl,rfl,ht,hr⟩:=hf
    obtain ⟨x,hx⟩:=h f (by simp)
    obtain ⟨avs,h1,h2⟩:=open_ty a ht hx
    obtain ⟨bvs,k1,k2⟩:=open_fs b (fuel:=fuel) hr hc (fun g hg=>h g (by simp [hg]))
    refine ⟨avs ++ bvs,?_,by simp only [IsF]; exact ⟨avs,bvs,rfl,h2,k2⟩⟩
    have:=h1.append k1
    rwa [← List.drop_drop,List.take_append_drop] at this
  | .int _,fs,o,n,cs,fuel,hf,hc,h=>by simp only [FsOf] at hf
  | .bool,fs,o,n,cs,fuel,hf,hc,h=>by simp only [FsOf] at hf
  | .string,fs,o,n,cs,fuel,hf,hc,h=>by simp only [FsOf] at hf
  | .slice _ _,fs,o,n,cs,fuel,hf,hc,h=>by simp only [FsOf] at hf
  | .struct _,fs,o,n,cs,fuel,hf,hc,h=>by simp only [FsOf] at hf
end
end
theorem IsTy.bytes {avs : List AV} (h : IsTy (.slice 1 (.int .u8)) avs) : ∃ l,avs = [bytesV l .any]∧l.length≤maxLen:=by
  simp only [IsTy] at h
  obtain ⟨els,rfl,hm,hall⟩:=h
  have key : ∀ els : List (List AV),(∀ el ∈ els,el.length = 1∧∃ n,el = [.v (.int .u8 n)]∧(Lit.int .u8 n).wf = true)→∃ l : List UInt8,l.length = els.length∧els.flatten = l.map byteV:=by
    intro els
    induction els with
    | nil=>intro _; exact ⟨[],rfl,rfl⟩
    | cons e els ih =>
      intro h
      obtain ⟨l,h1,h2⟩:=ih (fun el hel=>h el (by simp [hel]))
      obtain ⟨_,n,rfl,hw⟩:=h e (by simp)
      obtain ⟨m,rfl,hm⟩:=nat_u8 hw
      refine ⟨UInt8.ofNat m :: l,by simp [h1],?_⟩
      simp only [List.flatten_cons,h2,List.map_cons,List.singleton_append,byteV]
      congr 3
      simp [Nat.mod_eq_of_lt (show m < 256 by omega)]
  obtain ⟨l,h1,h2⟩:=key els hall
  refine ⟨l,?_,by omega⟩
  rw [← h1,h2]
  rfl
end Go.AM
namespace Go.AM
open Go Go.RowKit
def beNat (l : List UInt8) : Nat:=l.foldl (fun n c=>n * 256 + c.toNat) 0
abbrev EyeSt:=List UInt8 × Int
def eyeNext (n : Int) (st : EyeSt) : List UInt8 × EyeSt :=
  if st.2 = 0 then (if n < 0 then ([],st.1,2) else if (st.1.length : Int) < n then ([],st.1,10) else (st.1.take n.toNat,st.1.drop n.toNat,0)) else ([],st)
def eyeNum (k : Nat) (st : EyeSt) : Nat × EyeSt:=(beNat (eyeNext k st).1,(eyeNext k st).2)
def eyeText (k : Nat) (most : Int) (st : EyeSt) : List UInt8 × EyeSt :=
  if (eyeNum k st).2.2 = 0 then
    (if most < (eyeNum k st).1 then ([],st.1,11) else if (eyeNum k st).2.1.length < (eyeNum k st).1 then ([],st.1,10) else eyeNext (eyeNum k st).1 (eyeNum k st).2)
  else ([],(eyeNum k st).2)
def eyeEnd (st : EyeSt) : Int:=if st.2 = 0∧0 < st.1.length then 13 else st.2
structure EyeS (s0 s : AS) (p : Nat) (st : EyeSt) : Prop where
  le : s0.le s
  new : s0.objs p = none
  obj : s.objs p = some [bytesV st.1 .any,.v (.int .i64 st.2)]
theorem EyeS.put {s0 s : AS} {p : Nat} {st : EyeSt} (h : EyeS s0 s p st) {l : List UInt8} {e : Int} : EyeS s0 (s.set p [bytesV l .any,.v (.int .i64 e)]) p (l,e) :=
  ⟨AS.le_set h.le h.new _,h.new,AS.set_objs_same _ _ _⟩
theorem EyeS.put' {s0 s : AS} {p : Nat} {st : EyeSt} (h : EyeS s0 s p st) {l : List UInt8} {e : Int} {cs : List AV} (hc : cs = [bytesV l .any,.v (.int .i64 e)]) : EyeS s0 (s.set p cs) p (l,e):=hc ▸ h.put
theorem EyeS.own {s0 s : AS} {p : Nat} {st : EyeSt} (h : EyeS s0 s p st) : EyeS (s.drop p) s p st:=by
  refine ⟨⟨fun o cs hc=>?_,fun t e he=>?_,fun _ _ h=>h⟩,?_,h.obj⟩
  · simp only [AS.drop,upd] at hc
    split at hc
    · cases hc
    · exact hc
  · simpa [AS.drop] using he
  · simp [AS.drop]
theorem beNat_snoc (l : List UInt8) (c : UInt8) : beNat (l ++ [c]) = beNat l * 256 + c.toNat:=by simp [beNat]
theorem beNat_lt (l : List UInt8) : beNat l < 256 ^ l.length:=by
  have key : ∀ (l : List UInt8) (n k : Nat),n < 256 ^ k→l.foldl (fun n c=>n * 256 + c.toNat) n < 256 ^ (k + l.length):=by
    intro l
    induction l with
    | nil=>intro n k h; simpa using h
    | cons c l ih =>
      intro n k h
      have hc:=c.toNat_lt
      have:=ih (n * 256 + c.toNat) (k + 1) (by rw [Nat.pow_succ]; omega)
      simp only [List.foldl_cons,List.length_cons]
      rw [show k + (l.length + 1) = k + 1 + l.length from by omega]
      exact this
  have:=key l 0 0 (by simp)
  rwa [Nat.zero_add] at this
theorem beNat_take_lt (l : List UInt8) (k : Nat) : beNat (l.take k) < 256 ^ k:=by
  refine Nat.lt_of_lt_of_le (beNat_lt _) (Nat.pow_le_pow_right (by decide) ?_)
  rw [List.length_take]; omega
theorem eyeNext_len (n : Int) (st : EyeSt) : (eyeNext n st).1.length≤st.1.length∧(eyeNext n st).2.1.length≤st.1.length:=by
  unfold eyeNext
  split
  · split
    · simp
    · split
      · simp
      · simp; omega
  · simp
theorem eyeNext_le (k : Nat) (st : EyeSt) : (eyeNext k st).1.length≤k:=by
  unfold eyeNext
  split
  · split
    · simp
    · split
      · simp
      · simp; omega
  · simp
theorem eyeNum_lt (k : Nat) (st : EyeSt) : (eyeNum k st).1 < 256 ^ k :=
  Nat.lt_of_lt_of_le (beNat_lt _) (Nat.pow_le_pow_right (by decide) (eyeNext_le k st))
theorem eyeNum_len (k : Nat) (st : EyeSt) : (eyeNum k st).2.1.length≤st.1.length:=(eyeNext_len _ _).2
theorem eyeText_len (k : Nat) (most : Int) (st : EyeSt) : (eyeText k most st).1.length≤st.1.length∧(eyeText k most st).2.1.length≤st.1.length:=by
  have h1:=eyeNum_len k st
  have h2:=eyeNext_len (eyeNum k st).1 (eyeNum k st).2
  unfold eyeText
  split
  · split
    · simp
    · split
      · simp
      · omega
  · simp; omega
theorem beNat_step (n : Nat) (c : UInt8) (hn : n < 2 ^ 56) : ior .u64 (ishl .u64 (n : Int) 8) (iconv .u64 (c.toNat : Int)) = ((n * 256 + c.toNat : Nat) : Int):=by
  have hc:=c.toNat_lt
  have h1 : ishl .u64 (n : Int) (8 : Int) = ((n * 256 : Nat) : Int):=by
    have:=ishl_u (k:=.u64) rfl n 8
    rw [show ((8 : Nat) : Int) = 8 from rfl] at this
    rw [this]
    simp only [IntKind.bits]
    rw [Nat.mod_eq_of_lt (by simp; omega)]
    simp
  have h2 : iconv .u64 (c.toNat : Int) = (c.toNat : Int):=iconv_u64_nat _ (by omega)
  rw [h1,h2,ior_u (k:=.u64) rfl _ _ (by simp only [IntKind.bits]; omega) (by simp only [IntKind.bits]; omega)]
  congr 1
  have:=Nat.two_pow_add_eq_or_of_lt (i:=8) (b:=c.toNat) (by omega) n
  rw [show n * 256 = 2 ^ 8 * n from by omega,← this]
end Go.AM
namespace Go.AM
open Go Go.RowKit
theorem isAny_any : Sp.any.isAny = true:=rfl
theorem isAny_no : Sp.no.isAny = false:=rfl
theorem isAny_new : Sp.new.isAny = false:=rfl
theorem isAny_full : Sp.full.isAny = false:=rfl
theorem isAny_own (t e : Nat) : (Sp.own t e).isAny = false:=rfl
theorem bs_size (l : List UInt8) : (ByteArray.mk l.toArray).size = l.length:=rfl
theorem bs_append (l m : List UInt8) : (ByteArray.mk l.toArray) ++ (ByteArray.mk m.toArray) = ByteArray.mk (l ++ m).toArray:=by
  apply ByteArray.ext
  simp
theorem bs_extract (l : List UInt8) (i j : Nat) : (ByteArray.mk l.toArray).extract i j = ByteArray.mk ((l.take j).drop i).toArray:=by
  apply ByteArray.ext
  apply Array.ext'
  simp [List.extract_eq_take_drop,List.drop_take]
theorem bs_empty : (ByteArray.mk #[]) = ByteArray.mk ([] : List UInt8).toArray:=rfl
theorem beq_list (l m : List UInt8) : (l == m) = decide (l = m):=by
  by_cases h : l = m <;> simp [h]
theorem take_mapB (l : List UInt8) (n : Nat) : List.take n (l.map byteV) = (l.take n).map byteV:=List.map_take.symm
theorem drop_mapB (l : List UInt8) (n : Nat) : List.drop n (l.map byteV) = (l.drop n).map byteV:=List.map_drop.symm
theorem bytes_of {n : Nat} {cs : List AV} {sp : Sp} {m : List UInt8} (h1 : n = m.length) (h2 : cs = m.map byteV) : AV.sl 1 n cs sp = bytesV m sp:=by subst h1; subst h2; rfl
theorem IsB.of {n : Nat} {cs : List AV} {sp : Sp} {m : List UInt8} (h1 : n = m.length) (h2 : cs = m.map byteV) : IsB (.sl 1 n cs sp) m:=by subst h1; subst h2; exact IsB.mk m sp
theorem IsB.any (l : List UInt8) : IsB (bytesV l .any) l:=IsB.mk l .any
theorem eat_one {α : Type} {l : List α} {i : Nat} (h : i < l.length) : (l.drop i).take 1 = [l[i]]:=by
  rw [List.drop_eq_getElem_cons h]
  rfl
theorem eat_byte {l : List UInt8} {i : Nat} (h : i < l.length) : (((l.drop i).take 1).map byteV) = [byteV l[i]]:=by rw [eat_one h]; rfl
theorem eye_succ (i : Nat) (h : i < 2 ^ 62) : iadd .i64 (i : Int) 1 = ((i + 1 : Nat) : Int):=by
  rw [iadd_i64 (by omega)]
  rfl
theorem eye_lt_nat {a b : Nat} : ((a : Int) < b) = (a < b):=by simp
theorem i64_ne_false (x : Int) (h : x = 0) : (x != 0) = false:=by subst h; rfl
theorem i64_ne_true (x : Int) (h : x≠0) : (x != 0) = true:=by simpa using h
theorem i64_eq_true (x : Int) (h : x = 0) : (x == 0) = true:=by subst h; rfl
theorem i64_eq_false (x : Int) (h : x≠0) : (x == 0) = false:=by simpa using h
theorem bs_get (l : List UInt8) (i : Nat) (h : i < l.length) : (ByteArray.mk l.toArray)[i]? = some l[i]:=by
  rw [getElem?_pos (ByteArray.mk l.toArray) i (by simpa [bs_size] using h)]
  rfl
theorem i64_conv {n : Nat} (h : n < 2 ^ 62) : iconv .i64 (n : Int) = n:=iconv_i64 (by omega)
structure REyeS (s0 s : AS) (p : Nat) (st : EyeSt) : Prop where
  le : s0.le s
  new : s0.objs p = none
  obj : s.objs p = some [.v (.string ⟨st.1.toArray⟩),.v (.int .i64 st.2)]
theorem REyeS.put {s0 s : AS} {p : Nat} {st : EyeSt} (h : REyeS s0 s p st) {l : List UInt8} {e : Int} : REyeS s0 (s.set p [.v (.string ⟨l.toArray⟩),.v (.int .i64 e)]) p (l,e) :=
  ⟨AS.le_set h.le h.new _,h.new,AS.set_objs_same _ _ _⟩
theorem REyeS.put' {s0 s : AS} {p : Nat} {st : EyeSt} (h : REyeS s0 s p st) {l : List UInt8} {e : Int} {cs : List AV} (hc : cs = [.v (.string ⟨l.toArray⟩),.v (.int .i64 e)]) : REyeS s0 (s.set p cs) p (l,e):=hc ▸ h.put
theorem REyeS.own {s0 s : AS} {p : Nat} {st : EyeSt} (h : REyeS s0 s p st) : REyeS (s.drop p) s p st:=by
  refine ⟨⟨fun o cs hc=>?_,fun t e he=>?_,fun _ _ h=>h⟩,?_,h.obj⟩
  · simp only [AS.drop,upd] at hc
    split at hc
    · cases hc
    · exact hc
  · simpa [AS.drop] using he
  · simp [AS.drop]
theorem eyeNext_err {n : Int} {l : List UInt8} {e : Int} (h : e≠0) : eyeNext n (l,e) = ([],l,e):=by unfold eyeNext; exact if_neg h
theorem eyeNext_neg {n : Int} {l : List UInt8} (h : n < 0) : eyeNext n (l,0) = ([],l,2):=by unfold eyeNext; exact (if_pos rfl).trans (if_pos h)
theorem eyeNext_short {n : Int} {l : List UInt8} (h : ¬ n < 0) (k : (l.length : Int) < n) : eyeNext n (l,0) = ([],l,10):=by unfold eyeNext; exact (if_pos rfl).trans ((if_neg h).trans (if_pos k))
theorem eyeNext_ok {m : Nat} {l : List UInt8} (k : m≤l.length) : eyeNext m (l,0) = (l.take m,l.drop m,0):=by unfold eyeNext; exact (if_pos rfl).trans ((if_neg (by omega)).trans (if_neg (by simp only; omega)))
theorem eyeNum_err {k : Nat} {l : List UInt8} {e : Int} (h : e≠0) : eyeNum k (l,e) = (0,l,e):=by unfold eyeNum; rw [eyeNext_err h]; rfl
theorem eyeNum_short {k : Nat} {l : List UInt8} (h : l.length < k) : eyeNum k (l,0) = (0,l,10):=by unfold eyeNum; rw [eyeNext_short (by omega) (by omega)]; rfl
theorem eyeNum_ok {k : Nat} {l : List UInt8} (h : k≤l.length) : eyeNum k (l,0) = (beNat (l.take k),l.drop k,0):=by unfold eyeNum; rw [eyeNext_ok h]
theorem eyeText_err {k : Nat} {most : Int} {l : List UInt8} {e : Int} (h : e≠0) : eyeText k most (l,e) = ([],l,e):=by unfold eyeText; rw [eyeNum_err h]; exact if_neg h
theorem eyeText_short {k : Nat} {most : Int} {l : List UInt8} (h : l.length < k) : eyeText k most (l,0) = ([],l,10):=by unfold eyeText; rw [eyeNum_short h]; exact if_neg (show ¬ (10 : Int) = 0 by decide)
theorem eyeText_long {k : Nat} {most : Int} {l : List UInt8} (h : k≤l.length) (h2 : most < (beNat (l.take k) : Int)) : eyeText k most (l,0) = ([],l,11):=by unfold eyeText; rw [eyeNum_ok h]; exact (if_pos rfl).trans (if_pos h2)
theorem eyeText_less {k : Nat} {most : Int} {l : List UInt8} (h : k≤l.length) (h2 : ¬ most < (beNat (l.take k) : Int)) (h3 : l.length - k < beNat (l.take k)) : eyeText k most (l,0) = ([],l,10):=by
  unfold eyeText; rw [eyeNum_ok h]; exact (if_pos rfl).trans ((if_neg h2).trans (if_pos (by simpa using h3)))
theorem eyeText_ok {k : Nat} {most : Int} {l : List UInt8} (h : k≤l.length) (h2 : ¬ most < (beNat (l.take k) : Int)) (h3 : ¬ l.length - k < beNat (l.take k)) :
    eyeText k most (l,0) = ((l.take (k + beNat (l.take k))).drop k,l.drop (k + beNat (l.take k)),0):=by
  unfold eyeText
  rw [eyeNum_ok h]
  refine (if_pos rfl).trans ((if_neg h2).trans ((if_neg (by simpa using h3)).trans ?_))
  simp only
  rw [eyeNext_ok (by simpa using h3),List.drop_take,List.drop_drop,Nat.add_sub_cancel_left]
end Go.AM
namespace Go.AM
open Go Go.RowKit
theorem DN : type_of% (And.intro (And.intro (And.intro (And.intro (And.intro @AX_nil @AX_call) (And.intro @AX_move (And.intro @AX_assign @AX_pick))) (And.intro (And.intro @AX_alloc @AX_box) (And.intro @AX_build (And.intro @AX_buildSlice @AX_load)))) (And.intro (And.intro (And.intro @AX_store @AX_nilCheck) (And.intro @AX_binOp (And.intro @AX_unOp @AX_convert))) (And.intro (And.intro @AX_makeInterface @AX_makeFunc) (And.intro @AX_makeSlice (And.intro @AX_slice @AX_fieldAddr))))) (And.intro (And.intro (And.intro (And.intro @AX_field @AX_indexAddr) (And.intro @AX_index (And.intro @AX_extract @AX_builtin))) (And.intro (And.intro @AX_guard @astep_eq) (And.intro @aeff_load_eq (And.intro @aeff_store_eq @aeff_alloc_eq)))) (And.intro (And.intro (And.intro @aeff_box_eq @aeff_makeSlice_eq) (And.intro @aeff_append_eq (And.intro @aeff_copy_eq @aappend_nil))) (And.intro (And.intro @aappend_full @aappend_new) (And.intro @aappend_own (And.intro @ACallO_fun (And.intro @ACallO_clo (And.intro (And.intro @AX_makeMap (And.intro @AX_lookup (And.intro @AX_mapUpdate (And.intro @AX_range (And.intro @AX_next (And.intro @AX_entry (And.intro @aeff_len_eq (And.intro @aeff_range_eq (And.intro @aeff_next_eq (And.intro @aeff_entry_eq (And.intro @mo_map (And.intro @mo_fix @aiter_ptr)))))))))))) (And.intro @aeff_makeMap_eq (And.intro @aeff_lookup_eq @aeff_mapUpdate_eq)))))))))) :=
  (And.intro (And.intro (And.intro (And.intro (And.intro @AX_nil @AX_call) (And.intro @AX_move (And.intro @AX_assign @AX_pick))) (And.intro (And.intro @AX_alloc @AX_box) (And.intro @AX_build (And.intro @AX_buildSlice @AX_load)))) (And.intro (And.intro (And.intro @AX_store @AX_nilCheck) (And.intro @AX_binOp (And.intro @AX_unOp @AX_convert))) (And.intro (And.intro @AX_makeInterface @AX_makeFunc) (And.intro @AX_makeSlice (And.intro @AX_slice @AX_fieldAddr))))) (And.intro (And.intro (And.intro (And.intro @AX_field @AX_indexAddr) (And.intro @AX_index (And.intro @AX_extract @AX_builtin))) (And.intro (And.intro @AX_guard @astep_eq) (And.intro @aeff_load_eq (And.intro @aeff_store_eq @aeff_alloc_eq)))) (And.intro (And.intro (And.intro @aeff_box_eq @aeff_makeSlice_eq) (And.intro @aeff_append_eq (And.intro @aeff_copy_eq @aappend_nil))) (And.intro (And.intro @aappend_full @aappend_new) (And.intro @aappend_own (And.intro @ACallO_fun (And.intro @ACallO_clo (And.intro (And.intro @AX_makeMap (And.intro @AX_lookup (And.intro @AX_mapUpdate (And.intro @AX_range (And.intro @AX_next (And.intro @AX_entry (And.intro @aeff_len_eq (And.intro @aeff_range_eq (And.intro @aeff_next_eq (And.intro @aeff_entry_eq (And.intro @mo_map (And.intro @mo_fix @aiter_ptr)))))))))))) (And.intro @aeff_makeMap_eq (And.intro @aeff_lookup_eq @aeff_mapUpdate_eq))))))))))
theorem UP : type_of% (And.intro (And.intro (And.intro (And.intro (And.intro (And.intro @zrow_one @AS.set_objs_eq) (And.intro @AS.gain_objs (And.intro @AS.drop_objs @AS.set_own))) (And.intro (And.intro @AS.gain_own_eq @AS.drop_own) (And.intro @AS.set_set (And.intro @false_imp_iff @Option.some.injEq.{0})))) (And.intro (And.intro (And.intro @Option.map_some.{0,0} @Option.map_none.{0,0}) (And.intro @Option.bind_some.{0,0} (And.intro @Option.isSome_some.{0} @Option.isSome_none.{0}))) (And.intro (And.intro @true_and @and_true) (And.intro @and_self (And.intro @not_true_eq_false @not_false_eq_true))))) (And.intro (And.intro (And.intro (And.intro @or_self @or_false) (And.intro @false_or (And.intro @Nat.zero_add @Nat.add_zero))) (And.intro (And.intro @Nat.zero_mul @Nat.mul_one) (And.intro @Nat.one_mul (And.intro @Nat.mul_zero @Int.toNat_natCast)))) (And.intro (And.intro (And.intro @Nat.zero_ne_one @Nat.one_ne_zero) (And.intro @List.getD_cons_zero.{0} (And.intro @List.getD_cons_succ.{0} @List.length_cons.{0}))) (And.intro (And.intro @List.length_nil.{0} (And.intro @List.set_cons_zero.{0} @List.set_cons_succ.{0})) (And.intro @List.map_cons.{0,0} (And.intro @List.map_nil.{0,0} @List.drop_succ_cons.{0})))))) (And.intro (And.intro (And.intro (And.intro (And.intro @List.drop_zero.{0} @List.take_succ_cons.{0}) (And.intro @List.take_zero.{0} (And.intro @List.getElem?_cons_zero.{0} @List.getElem?_cons_succ.{0}))) (And.intro (And.intro @List.getElem?_toArray.{0} @List.all_cons.{0}) (And.intro @List.all_nil.{0} (And.intro @Bool.and_true @Bool.true_and)))) (And.intro (And.intro (And.intro @Bool.and_self @List.size_toArray.{0}) (And.intro @List.append_assoc.{0} (And.intro @List.nil_append.{0} @List.cons_append.{0}))) (And.intro (And.intro @List.append_nil.{0} (And.intro @beq_self_eq_true.{0} @decide_true)) (And.intro @decide_false (And.intro @gt_iff_lt.{0} @ge_iff_le.{0}))))) (And.intro (And.intro (And.intro (And.intro @Nat.not_lt_zero @List.replicate_zero.{0}) (And.intro @List.length_map.{0,0} (And.intro @List.length_append.{0} @List.map_append.{0,0}))) (And.intro (And.intro @all_one_map @isAny_any) (And.intro @isAny_no (And.intro @isAny_new @isAny_full)))) (And.intro (And.intro (And.intro @isAny_own @toBytes_map) (And.intro @all_isByte_map (And.intro @take_mapB @drop_mapB))) (And.intro (And.intro @bs_size (And.intro @bs_append @bs_extract)) (And.intro @bs_empty (And.intro @ByteArray.toList_mk (And.intro @List.toList_toArray.{0} (And.intro (And.intro Bool.not_true Bool.not_false) (And.intro Bool.false_eq_true Bool.true_eq_false)))))))))) :=
  (And.intro (And.intro (And.intro (And.intro (And.intro (And.intro @zrow_one @AS.set_objs_eq) (And.intro @AS.gain_objs (And.intro @AS.drop_objs @AS.set_own))) (And.intro (And.intro @AS.gain_own_eq @AS.drop_own) (And.intro @AS.set_set (And.intro @false_imp_iff @Option.some.injEq.{0})))) (And.intro (And.intro (And.intro @Option.map_some.{0,0} @Option.map_none.{0,0}) (And.intro @Option.bind_some.{0,0} (And.intro @Option.isSome_some.{0} @Option.isSome_none.{0}))) (And.intro (And.intro @true_and @and_true) (And.intro @and_self (And.intro @not_true_eq_false @not_false_eq_true))))) (And.intro (And.intro (And.intro (And.intro @or_self @or_false) (And.intro @false_or (And.intro @Nat.zero_add @Nat.add_zero))) (And.intro (And.intro @Nat.zero_mul @Nat.mul_one) (And.intro @Nat.one_mul (And.intro @Nat.mul_zero @Int.toNat_natCast)))) (And.intro (And.intro (And.intro @Nat.zero_ne_one @Nat.one_ne_zero) (And.intro @List.getD_cons_zero.{0} (And.intro @List.getD_cons_succ.{0} @List.length_cons.{0}))) (And.intro (And.intro @List.length_nil.{0} (And.intro @List.set_cons_zero.{0} @List.set_cons_succ.{0})) (And.intro @List.map_cons.{0,0} (And.intro @List.map_nil.{0,0} @List.drop_succ_cons.{0})))))) (And.intro (And.intro (And.intro (And.intro (And.intro @List.drop_zero.{0} @List.take_succ_cons.{0}) (And.intro @List.take_zero.{0} (And.intro @List.getElem?_cons_zero.{0} @List.getElem?_cons_succ.{0}))) (And.intro (And.intro @List.getElem?_toArray.{0} @List.all_cons.{0}) (And.intro @List.all_nil.{0} (And.intro @Bool.and_true @Bool.true_and)))) (And.intro (And.intro (And.intro @Bool.and_self @List.size_toArray.{0}) (And.intro @List.append_assoc.{0} (And.intro @List.nil_append.{0} @List.cons_append.{0}))) (And.intro (And.intro @List.append_nil.{0} (And.intro @beq_self_eq_true.{0} @decide_true)) (And.intro @decide_false (And.intro @gt_iff_lt.{0} @ge_iff_le.{0}))))) (And.intro (And.intro (And.intro (And.intro @Nat.not_lt_zero @List.replicate_zero.{0}) (And.intro @List.length_map.{0,0} (And.intro @List.length_append.{0} @List.map_append.{0,0}))) (And.intro (And.intro @all_one_map @isAny_any) (And.intro @isAny_no (And.intro @isAny_new @isAny_full)))) (And.intro (And.intro (And.intro @isAny_own @toBytes_map) (And.intro @all_isByte_map (And.intro @take_mapB @drop_mapB))) (And.intro (And.intro @bs_size (And.intro @bs_append @bs_extract)) (And.intro @bs_empty (And.intro @ByteArray.toList_mk (And.intro @List.toList_toArray.{0} (And.intro (And.intro Bool.not_true Bool.not_false) (And.intro Bool.false_eq_true Bool.true_eq_false))))))))))
end Go.AM
namespace Go.AM
open Go Go.RowKit
theorem vrel_slice {G : Gh} {x : AV} {v : Value} (o : ∃ a l c,v = .slice a l c) (r : VRels G [x] v.cells.toList) : VRel G x v:=by
  obtain ⟨a,l,c,rfl⟩:=o
  simp only [Value.cells,VRels] at r
  obtain ⟨u,us,h,k,rfl⟩:=r
  cases h
  exact k
theorem VRels.cons {G : Gh} {x : AV} {u : Value} {xs : List AV} {us : List Value} (h : VRel G x u) (k : VRels G xs us) : VRels G (x :: xs) (u :: us):=by
  simp only [VRels]; exact ⟨u,us,rfl,h,k⟩
theorem VRels.none {G : Gh} : VRels G [] []:=by simp only [VRels]
theorem VRel.val {G : Gh} (x : Value) : VRel G (.v x) x:=by simp only [VRel]
theorem IsTy.rows {sz : Nat} {e : Ty} {avs : List AV} (h : IsTy (.slice sz e) avs) : ∃ els : List (List AV),avs = [.sl sz els.length els.flatten .any]∧els.length≤maxLen∧∀ el ∈ els,el.length = sz∧IsTy e el:=by
  simpa only [IsTy] using h
theorem flatten_at {sz : Nat} : ∀ {els : List (List AV)} {i : Nat} (h : i < els.length),(∀ el ∈ els,el.length = sz)→(els.flatten.drop (i * sz)).take sz = els[i]
  | [],i,h,_=>by simp at h
  | e :: els,0,h,k=>by
    have:=k e (by simp)
    simp [List.take_append,this]
  | e :: els,i + 1,h,k=>by
    have he:=k e (by simp)
    have ih:=flatten_at (els:=els) (i:=i) (by simpa using h) (fun el hel=>k el (by simp [hel]))
    rw [show (i + 1) * sz = e.length + i * sz by rw [he,Nat.succ_mul,Nat.add_comm],List.flatten_cons,← List.drop_drop,List.drop_left,ih]
    rfl
end Go.AM
