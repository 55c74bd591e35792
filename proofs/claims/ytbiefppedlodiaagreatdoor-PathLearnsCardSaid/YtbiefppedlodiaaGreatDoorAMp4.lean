/- An abstract machine for the model and the rules of its walk, each proved sound over the model; no condition. -/
import Derived.Test.YtbiefppedlodiaaGreatDoorAMp3
import Derived.ChangeSlices
set_option linter.unusedSimpArgs false
set_option linter.unusedVariables false
namespace Go.AM
open Go Go.RowKit
inductive Ty where
  |int (k:IntKind)
  |bool
  |string
  |slice (sz:Nat) (e:Ty)
  |struct (b:Ty)
  |nil
  |cons (a b:Ty)
mutual
def tf(P:Program):Ty→TypeId→Prop
  |.int k,t=>P.underlying t=some (.int k)
  |.bool,t=>P.underlying t=some .bool
  |.string,t=>P.underlying t=some .string
  |.slice sz e,t=>∃e',P.underlying t=some (.slice e')∧P.cellsOf e'=sz∧sz≠0∧tf P e e'
  |.struct b,t=>∃fs:Array Field,P.underlying t=some (.struct fs)∧wD P b fs.toList 0 (P.cellsOf t)
  |.nil,_=>False
  |.cons _ _,_=>False
def wD(P:Program):Ty→List Field→Nat→Nat→Prop
  |.nil,fs,o,n=>fs=[]∧o=n
  |.cons a b,fs,o,n=>∃f rest,fs=f::rest∧f.offset=o∧tf P a f.type∧wD P b rest (o+P.cellsOf f.type) n
  |.int _,_,_,_=>False
  |.bool,_,_,_=>False
  |.string,_,_,_=>False
  |.slice _ _,_,_,_=>False
  |.struct _,_,_,_=>False
end
mutual
def ed:Ty→List AV→Prop
  |.int k,gD=>∃n,gD=[.v (.int k n)]∧(Lit.int k n).wf=true
  |.bool,gD=>∃b,gD=[.v (.bool b)]
  |.string,gD=>∃s:ByteArray,gD=[.v (.string s)]∧s.size≤maxLen
  |.slice sz e,gD=>∃els:List (List AV),gD=[.sl sz els.length els.flatten .any]∧els.length≤maxLen∧∀el∈els,el.length=sz∧ed e el
  |.struct b,gD=>KM b gD
  |.nil,_=>False
  |.cons _ _,_=>False
def KM:Ty→List AV→Prop
  |.nil,gD=>gD=[]
  |.cons a b,gD=>∃x y,gD=x++y∧ed a x∧KM b y
  |.int _,_=>False
  |.bool,_=>False
  |.string,_=>False
  |.slice _ _,_=>False
  |.struct _,_=>False
end
theorem ar.one{G:Gh}{x:AV}{u:Value}(h:av G x u):ar G [x] [u]:=by
  simp only[ar];exact⟨u,[],rfl,h,rfl⟩
theorem cells?_some{w:World}{base n:Nat}{a:Addr}{cs:List Value}(h:w.cells? base a n=some cs):cs.length=n∧∀j u,cs[j]? =some u→w.cell? (a.add j)=some u:=by
  unfold World.cells? at h;split at h
  · have hl:=mapM_some_length h;simp only[List.length_range] at hl;refine⟨hl,fun j u hj=>?_⟩;have Gd:j<cs.length:=(List.getElem?_eq_some_iff.1 hj).1;have hr:(List.range n)[j]? =some j:=(by rw[List.getElem?_range (by omega)]);have:=mapM_some_get h j j hr;rw[this,hj]
  · cases h
theorem add_add(b off i j:Nat):(⟨b,off,none⟩:Addr).add (i+j)=((⟨b,off,none⟩:Addr).add i).add j:=by
  simp[cI,Nat.add_assoc]
section
variable{P:Program}{H:Type}{enc:TypeId×Value→H}{w:World}{base:Nat}{spare:Nat→Bool}{held:Bool}
theorem Ei{c len:Nat}{b off:Nat}{el:Nat→List Value→Prop}{T:List AV→Prop}
    (h:∀i,i<len→∃cs,(cs.length=c∧∀j u,cs[j]? =some u→w.cell? ((⟨b,off,none⟩:Addr).add (i*c+j))=some u)∧∃gD,ar (G0 w) gD cs∧T gD):
    ∀m,m≤len→∃(els:List (List AV))(vs:List Value),els.length=m∧vs.length=m*c∧ar (G0 w) els.flatten vs∧gz (G0 w) b off vs∧∀el∈els,el.length=c∧T el
  |0,_=>⟨[],[],rfl,by simp,by simp[ar],fun j u hj=>by simp at hj,by simp⟩
  |m+1,hm=>by
    obtain⟨els,vs,h1,h2,h3,h4,h5⟩:=Ei (el:=el) h m (by omega);obtain⟨cs,⟨k1,k2⟩,gD,k3,k4⟩:=h m (by omega);refine⟨els++[gD],vs++cs,by simp[h1],by simp[h2,k1,Nat.add_mul],by simpa using h3.append k3,?_,?_⟩
    · intro j u hj;rcases Nat.lt_or_ge j vs.length with hl|hl
      · rw[List.getElem?_append_left hl] at hj;exact h4 j u hj
      · rw[List.getElem?_append_right hl] at hj;have:=k2 _ _ hj;rw[cI] at this;rw[show off+j=off+(m*c+(j-vs.length)) from by omega];exact this
    · intro e he;rcases List.mem_append.1 he with he|he
      · exact h5 e he
      · simp only[List.mem_singleton] at he;subst he;exact⟨by rw[k3.length,k1],k4⟩
mutual
theorem xf:∀(ty:Ty){t:TypeId}{cs:List Value}{fuel:Nat}{x:DataW H×List MemPlace},tf P ty t→DataW.trod enc P w base spare held fuel t cs=some x→∃gD,ar (G0 w) gD cs∧ed ty gD
  |.int k,t,cs,fuel,x,ht,h=>by
    simp only[tf] at ht;obtain⟨n,rfl,_,hw⟩:=DataW.trod_int ht h;exact⟨[.v (.int k n)],ar.one (by simp[av]),by simp only[ed];exact⟨n,rfl,hw⟩⟩
  |.bool,t,cs,fuel,x,ht,h=>by
    simp only[tf] at ht;obtain⟨n,rfl,_⟩:=DataW.trod_bool ht h;exact⟨[.v (.bool n)],ar.one (by simp[av]),by simp only[ed];exact⟨n,rfl⟩⟩
  |.string,t,cs,fuel,x,ht,h=>by
    simp only[tf] at ht;obtain⟨s,rfl,_,hw⟩:=DataW.trod_string ht h;exact⟨[.v (.string s)],ar.one (by simp[av]),by simp only[ed];exact⟨s,rfl,hw⟩⟩
  |.slice sz e,t,cs,fuel,x,ht,h=>by
    simp only[tf] at ht;obtain⟨e',hu,rfl,h0,hte⟩:=ht;rcases DataW.trod_slice hu h with⟨rfl,rfl⟩|⟨a,len,cap,elems,rest,n,_,rfl,rfl,hb,hl,hm,hlen,sD,rE,hns⟩
    · exact⟨[.sl (P.cellsOf e') 0 [] .any],ar.one (by simp only[av];exact .inr (.inr ⟨trivial,trivial,by simp,trivial⟩)),by simp only[ed];exact⟨[],rfl,by simp,by simp⟩⟩
    · by_cases hz:len=0
      · subst hz;refine⟨[.sl (P.cellsOf e') 0 [] .any],ar.one ?_,?_⟩
        · simp only[av];exact .inr (.inl ⟨trivial,trivial,a,cap,rfl,by simp⟩)
        · simp only[ed];exact⟨[],rfl,by simp,by simp⟩
      · have each:∀i,i<len→∃cs,w.cells? base (a.add (i*P.cellsOf e')) (P.cellsOf e')=some cs∧∃gD,ar (G0 w) gD cs∧ed e gD:=by
          intro i hi;have h1:=sD i hi;rw[List.getElem?_eq_getElem (by omega),Option.bind_eq_some_iff] at h1;obtain⟨cs,h2,h3⟩:=h1;exact⟨cs,h2,xf e hte h3⟩
        have Q2:a.spot=none:=by
          obtain⟨cs,h1,_⟩:=each 0 (by omega);obtain⟨h2,h3⟩:=cells?_some h1;have h4:=h3 0 cs[0] (List.getElem?_eq_getElem (by omega));have:=World.cell?_spot h4;simpa[Addr.add] using this
        obtain⟨b,off,spot⟩:=a;simp only at Q2;subst Q2;obtain⟨els,vs,k1,k2,k3,k4,k5⟩:=Ei (w:=w) (b:=b) (off:=off) (c:=P.cellsOf e') (len:=len) (T:=ed e) (el:=fun _ _=>True) (fun i hi=>by
          obtain⟨cs,h1,h2⟩:=each i hi;obtain⟨h3,h4⟩:=cells?_some h1;exact⟨cs,⟨h3,fun j u hj=>by rw[add_add];exact h4 j u hj⟩,h2⟩) len (Nat.le_refl _)
        refine⟨[.sl (P.cellsOf e') els.length els.flatten .any],ar.one ?_,?_⟩
        · simp only[av];exact .inl ⟨b,off,cap,vs,by rw[k1],by rw[k3.length,k2,k1],by omega,k3,k4,by simp only[eC]⟩
        · simp only[ed];exact⟨els,rfl,by omega,k5⟩
  |.struct b,t,cs,fuel,x,ht,h=>by
    simp only[tf] at ht;obtain⟨fs,hu,hf⟩:=ht;obtain⟨xs,n,_,_,hc,hl,bS⟩:=DataW.trod_struct hu h;obtain⟨gD,h1,h2⟩:=HY b (cs:=cs) (fuel:=n) hf hc (fun f UE=>by
      obtain⟨i,hi⟩:=List.getElem?_of_mem UE;have:=bS i f (by simpa using hi);have Jn:i<fs.toList.length:=(List.getElem?_eq_some_iff.1 hi).1;exact⟨xs[i]'(by simp at Jn;omega),by rw[this];exact List.getElem?_eq_getElem _⟩)
    exact⟨gD,by simpa using h1,by simpa only[ed] using h2⟩
  |.nil,t,cs,fuel,x,ht,h=>by simp only[tf] at ht
  |.cons _ _,t,cs,fuel,x,ht,h=>by simp only[tf] at ht
theorem HY:∀(ty:Ty){fs:List Field}{o n:Nat}{cs:List Value}{fuel:Nat},wD P ty fs o n→cs.length=n→
    (∀f∈fs,∃x,DataW.trod enc P w base spare held fuel f.type ((cs.drop f.offset).take (P.cellsOf f.type))=some x)→∃gD,ar (G0 w) gD (cs.drop o)∧KM ty gD
  |.nil,fs,o,n,cs,fuel,hf,hc,h=>by
    simp only[wD] at hf;obtain⟨rfl,rfl⟩:=hf;exact⟨[],by rw[List.drop_eq_nil_of_le (by omega)];simp[ar],by simp only[KM]⟩
  |.cons a b,fs,o,n,cs,fuel,hf,hc,h=>by
    simp only[wD] at hf;obtain⟨f,rest,rfl,rfl,ht,hr⟩:=hf;obtain⟨x,hx⟩:=h f (by simp);obtain⟨gD,h1,h2⟩:=xf a ht hx;obtain⟨bvs,k1,k2⟩:=HY b (fuel:=fuel) hr hc (fun g hg=>h g (by simp[hg]));refine⟨gD++bvs,?_,by simp only[KM];exact⟨gD,bvs,rfl,h2,k2⟩⟩;have:=h1.append k1;rwa [←List.drop_drop,List.take_append_drop] at this
  |.int _,fs,o,n,cs,fuel,hf,hc,h=>by simp only[wD] at hf
  |.bool,fs,o,n,cs,fuel,hf,hc,h=>by simp only[wD] at hf
  |.string,fs,o,n,cs,fuel,hf,hc,h=>by simp only[wD] at hf
  |.slice _ _,fs,o,n,cs,fuel,hf,hc,h=>by simp only[wD] at hf
  |.struct _,fs,o,n,cs,fuel,hf,hc,h=>by simp only[wD] at hf
end
end
theorem ed.bytes{gD:List AV}(h:ed (.slice 1 (.int .u8)) gD):∃l,gD=[al l .any]∧l.length≤maxLen:=by
  simp only[ed] at h;obtain⟨els,rfl,hm,bS⟩:=h;have key:∀els:List (List AV),(∀el∈els,el.length=1∧∃n,el=[.v (.int .u8 n)]∧(Lit.int .u8 n).wf=true)→∃l:List UInt8,l.length=els.length∧els.flatten=l.map ae:=by
    intro els;induction els with
    |nil=>intro _;exact⟨[],rfl,rfl⟩
    |cons e els ih=>
      intro h;obtain⟨l,h1,h2⟩:=ih (fun el sD=>h el (by simp[sD]));obtain⟨_,n,rfl,hw⟩:=h e (by simp);obtain⟨m,rfl,hm⟩:=SF hw;refine⟨UInt8.ofNat m::l,by simp[h1],?_⟩;simp only[List.flatten_cons,h2,List.map_cons,List.singleton_append,ae];congr 3;simp[Nat.mod_eq_of_lt (show m<256 by omega)]
  obtain⟨l,h1,h2⟩:=key els bS;refine⟨l,?_,by omega⟩;rw[←h1,h2];rfl
end Go.AM
namespace Go.AM
open Go Go.RowKit
def gX(l:List UInt8):Nat:=l.foldl (fun n c=>n*256+c.toNat) 0
abbrev kn:=List UInt8×Int
def ee(n:Int)(st:kn):List UInt8×kn:=
  if st.2=0 then(if n<0 then([],st.1,2) else if(st.1.length:Int)<n then([],st.1,10) else(st.1.take n.toNat,st.1.drop n.toNat,0)) else([],st)
def jn(k:Nat)(st:kn):Nat×kn:=(gX (ee k st).1,(ee k st).2)
structure rP(s0 s:AS)(p:Nat)(st:kn):Prop where
  le:s0.le s
  new:s0.aw p=none
  obj:s.aw p=some [al st.1 .any,.v (.int .i64 st.2)]
theorem rP.put{s0 s:AS}{p:Nat}{st:kn}(h:rP s0 s p st){l:List UInt8}{e:Int}:rP s0 (s.set p [al l .any,.v (.int .i64 e)]) p (l,e):=
  ⟨AS.aF h.le h.new _,h.new,AS.af _ _ _⟩
theorem rP.xbR{s0 s:AS}{p:Nat}{st:kn}(h:rP s0 s p st){l:List UInt8}{e:Int}{cs:List AV}(hc:cs=[al l .any,.v (.int .i64 e)]):rP s0 (s.set p cs) p (l,e):=hc ▸ h.put
theorem xZ(l:List UInt8)(c:UInt8):gX (l++[c])=gX l*256+c.toNat:=by simp[gX]
theorem Ej(l:List UInt8):gX l<256^l.length:=by
  have key:∀(l:List UInt8)(n k:Nat),n<256^k→l.foldl (fun n c=>n*256+c.toNat) n<256^(k+l.length):=by
    intro l;induction l with
    |nil=>intro n k h;simpa using h
    |cons c l ih=>
      intro n k h;have hc:=c.toNat_lt;have:=ih (n*256+c.toNat) (k+1) (by rw[Nat.pow_succ];omega);simp only[List.foldl_cons,List.length_cons];rw[show k+(l.length+1)=k+1+l.length from by omega];exact this
  have:=key l 0 0 (by simp);rwa [Nat.zero_add] at this
theorem qW(l:List UInt8)(k:Nat):gX (l.take k)<256^k:=by
  refine Nat.lt_of_lt_of_le (Ej _) (Nat.pow_le_pow_right (by decide) ?_);rw[List.length_take];omega
theorem x8(k:Nat)(st:kn):(ee k st).1.length≤k:=by
  unfold ee;split
  · split
    · simp
    · split
      · simp
      · simp;omega
  · simp
theorem Jo(k:Nat)(st:kn):(jn k st).1<256^k:=
  Nat.lt_of_lt_of_le (Ej _) (Nat.pow_le_pow_right (by decide) (x8 k st))
theorem Gr(n:Nat)(c:UInt8)(hn:n<2^56):F6 .u64 (kC .u64 (n:Int) 8) (cE .u64 (c.toNat:Int))=((n*256+c.toNat:Nat):Int):=by
  have hc:=c.toNat_lt;have h1:kC .u64 (n:Int) (8:Int)=((n*256:Nat):Int):=by
    have:=rN (k:=.u64) rfl n 8;rw[show((8:Nat):Int)=8 from rfl] at this;rw[this];simp only[IntKind.bits];rw[Nat.mod_eq_of_lt (by simp;omega)];simp
  have h2:cE .u64 (c.toNat:Int)=(c.toNat:Int):=gC _ (by omega);rw[h1,h2,A2 (k:=.u64) rfl _ _ (by simp only[IntKind.bits];omega) (by simp only[IntKind.bits];omega)];congr 1;have:=Nat.two_pow_add_eq_or_of_lt (i:=8) (b:=c.toNat) (by omega) n;rw[show n*256=2^8*n from by omega,←this]
end Go.AM
namespace Go.AM
open Go Go.RowKit
theorem A6:Sp.any.isAny=true:=rfl
theorem Ek:Sp.no.isAny=false:=rfl
theorem A7:Sp.new.isAny=false:=rfl
theorem x9:Sp.full.isAny=false:=rfl
theorem A8(t e:Nat):(Sp.own t e).isAny=false:=rfl
theorem dO(l:List UInt8):(ByteArray.mk l.toArray).size=l.length:=rfl
theorem qp(l m:List UInt8):(ByteArray.mk l.toArray)++(ByteArray.mk m.toArray)=ByteArray.mk (l++m).toArray:=by
  apply ByteArray.ext;simp
theorem ya(l:List UInt8)(i j:Nat):(ByteArray.mk l.toArray).extract i j=ByteArray.mk ((l.take j).drop i).toArray:=by
  apply ByteArray.ext;apply Array.ext';simp[List.extract_eq_take_drop,List.drop_take]
theorem El:(ByteArray.mk #[])=ByteArray.mk ([]:List UInt8).toArray:=rfl
theorem eF{n:Nat}(h:n<2^62):(IntKind.i64.max<(n:Int))=False:=by
  have :IntKind.i64.max=9223372036854775807:=rfl;rw[this];simp;omega
theorem tg(l m:List UInt8):(l==m)=decide (l=m):=by
  by_cases h:l=m<;>simp[h]
theorem A9(l:List UInt8)(n:Nat):List.take n (l.map ae)=(l.take n).map ae:=List.map_take.symm
theorem Ba(l:List UInt8)(n:Nat):List.drop n (l.map ae)=(l.drop n).map ae:=List.map_drop.symm
theorem Em{n:Nat}{cs:List AV}{sp:Sp}{m:List UInt8}(h1:n=m.length)(h2:cs=m.map ae):AV.sl 1 n cs sp=al m sp:=by subst h1;subst h2;rfl
theorem zQ.of{n:Nat}{cs:List AV}{sp:Sp}{m:List UInt8}(h1:n=m.length)(h2:cs=m.map ae):zQ (.sl 1 n cs sp) m:=by subst h1;subst h2;exact zQ.mk m sp
theorem zQ.any(l:List UInt8):zQ (al l .any) l:=zQ.mk l .any
theorem OC{α:Type}{l:List α}{i:Nat}(h:i<l.length):(l.drop i).take 1=[l[i]]:=by
  rw[List.drop_eq_getElem_cons h];rfl
theorem KN{l:List UInt8}{i:Nat}(h:i<l.length):(((l.drop i).take 1).map ae)=[ae l[i]]:=by rw[OC h];rfl
theorem eG(i:Nat)(h:i<2^62):dQ .i64 (i:Int) 1=((i+1:Nat):Int):=by
  rw[ec (by omega)];rfl
theorem au{a b:Nat}:((a:Int)<b)=(a<b):=by simp
theorem Cf(x:Int)(h:x=0):(x != 0)=false:=by subst h;rfl
theorem En(x:Int)(h:x≠0):(x != 0)=true:=by simpa using h
theorem SG(l:List UInt8)(i:Nat)(h:i<l.length):(ByteArray.mk l.toArray)[i]? =some l[i]:=by
  rw[getElem?_pos (ByteArray.mk l.toArray) i (by simpa[dO] using h)];rfl
theorem th{k n:Nat}{l:List UInt8}(h:n<256^k):bm k (n:Int) (l,false)=(l++be k n,false):=by
  unfold bm;rw[if_pos]
  · rfl
  · refine⟨by omega,?_⟩;have e:(2:Int)^(8*k)=((256^k:Nat):Int):=(by rw[show(256:Nat)=2^8 from rfl,←Nat.pow_mul];push_cast;rfl);rw[e];exact Int.ofNat_lt.2 h
theorem vN{k:Nat}{m l:List UInt8}(h:m.length<256^k):dz k m (l,false)=(l++be k m.length++m,false):=by
  unfold dz;rw[th h];rfl
theorem KO{n:Nat}(h:n<2^62):cE .i64 (n:Int)=n:=A3 (by omega)
theorem Eo{n:Nat}(h:n<2^62):cE .u64 (n:Int)=n:=gC n (by omega)
structure xd7(s0 s:AS)(p:Nat)(st:kn):Prop where
  le:s0.le s
  new:s0.aw p=none
  obj:s.aw p=some [.v (.string ⟨st.1.toArray⟩),.v (.int .i64 st.2)]
theorem Ep{n:Int}{l:List UInt8}{e:Int}(h:e≠0):ee n (l,e)=([],l,e):=by unfold ee;exact if_neg h
theorem Er{n:Int}{l:List UInt8}(h:n<0):ee n (l,0)=([],l,2):=by unfold ee;exact(if_pos rfl).trans (if_pos h)
theorem zR{n:Int}{l:List UInt8}(h:¬n<0)(k:(l.length:Int)<n):ee n (l,0)=([],l,10):=by unfold ee;exact(if_pos rfl).trans ((if_neg h).trans (if_pos k))
theorem Gs{m:Nat}{l:List UInt8}(k:m≤l.length):ee m (l,0)=(l.take m,l.drop m,0):=by unfold ee;exact(if_pos rfl).trans ((if_neg (by omega)).trans (if_neg (by simp only;omega)))
end Go.AM
namespace Go.AM
open Go Go.RowKit
theorem DN:type_of%(And.intro (And.intro (And.intro (And.intro (And.intro @Gp @HX) (And.intro @HT (And.intro @A4 @HU))) (And.intro (And.intro @D9 @KI) (And.intro @Ea (And.intro @qT @HV)))) (And.intro (And.intro (And.intro @Eb @vH) (And.intro @Ec (And.intro @HW @xQ))) (And.intro (And.intro @nh @vI) (And.intro @sZ (And.intro @Ed @ta))))) (And.intro (And.intro (And.intro (And.intro @Ee @tb) (And.intro @Ef (And.intro @xR @xU))) (And.intro (And.intro @Eh @Eg) (And.intro @nR (And.intro @qU @qV)))) (And.intro (And.intro (And.intro @vJ @mE) (And.intro @pB (And.intro @tc @pC))) (And.intro (And.intro @td @vK) (And.intro @pD (And.intro @xN @xO)))))):=
  (And.intro (And.intro (And.intro (And.intro (And.intro @Gp @HX) (And.intro @HT (And.intro @A4 @HU))) (And.intro (And.intro @D9 @KI) (And.intro @Ea (And.intro @qT @HV)))) (And.intro (And.intro (And.intro @Eb @vH) (And.intro @Ec (And.intro @HW @xQ))) (And.intro (And.intro @nh @vI) (And.intro @sZ (And.intro @Ed @ta))))) (And.intro (And.intro (And.intro (And.intro @Ee @tb) (And.intro @Ef (And.intro @xR @xU))) (And.intro (And.intro @Eh @Eg) (And.intro @nR (And.intro @qU @qV)))) (And.intro (And.intro (And.intro @vJ @mE) (And.intro @pB (And.intro @tc @pC))) (And.intro (And.intro @td @vK) (And.intro @pD (And.intro @xN @xO))))))
theorem UP:type_of%(And.intro (And.intro (And.intro (And.intro (And.intro (And.intro @DL @AS.gW) (And.intro @AS.AW (And.intro @AS.qo @AS.HS))) (And.intro (And.intro @AS.vG @AS.D7) (And.intro @AS.set_set (And.intro @false_imp_iff @Option.some.injEq.{0})))) (And.intro (And.intro (And.intro @Option.map_some.{0,0} @Option.map_none.{0,0}) (And.intro @Option.bind_some.{0,0} (And.intro @Option.isSome_some.{0} @Option.isSome_none.{0}))) (And.intro (And.intro @true_and @and_true) (And.intro @and_self (And.intro @not_true_eq_false @not_false_eq_true))))) (And.intro (And.intro (And.intro (And.intro @or_self @or_false) (And.intro @false_or (And.intro @Nat.zero_add @Nat.add_zero))) (And.intro (And.intro @Nat.zero_mul @Nat.mul_one) (And.intro @Nat.one_mul (And.intro @Nat.mul_zero @Int.toNat_natCast)))) (And.intro (And.intro (And.intro @Nat.zero_ne_one @Nat.one_ne_zero) (And.intro @List.getD_cons_zero.{0} (And.intro @List.getD_cons_succ.{0} @List.length_cons.{0}))) (And.intro (And.intro @List.length_nil.{0} (And.intro @List.set_cons_zero.{0} @List.set_cons_succ.{0})) (And.intro @List.map_cons.{0,0} (And.intro @List.map_nil.{0,0} @List.drop_succ_cons.{0})))))) (And.intro (And.intro (And.intro (And.intro (And.intro @List.drop_zero.{0} @List.take_succ_cons.{0}) (And.intro @List.take_zero.{0} (And.intro @List.getElem?_cons_zero.{0} @List.getElem?_cons_succ.{0}))) (And.intro (And.intro @List.getElem?_toArray.{0} @List.all_cons.{0}) (And.intro @List.all_nil.{0} (And.intro @Bool.and_true @Bool.true_and)))) (And.intro (And.intro (And.intro @Bool.and_self @List.size_toArray.{0}) (And.intro @List.append_assoc.{0} (And.intro @List.nil_append.{0} @List.cons_append.{0}))) (And.intro (And.intro @List.append_nil.{0} (And.intro @beq_self_eq_true.{0} @decide_true)) (And.intro @decide_false (And.intro @gt_iff_lt.{0} @ge_iff_le.{0}))))) (And.intro (And.intro (And.intro (And.intro @Nat.not_lt_zero @List.replicate_zero.{0}) (And.intro @List.length_map.{0,0} (And.intro @List.length_append.{0} @List.map_append.{0,0}))) (And.intro (And.intro @pz @A6) (And.intro @Ek (And.intro @A7 @x9)))) (And.intro (And.intro (And.intro @A8 @dC) (And.intro @di (And.intro @A9 @Ba))) (And.intro (And.intro @dO (And.intro @qp @ya)) (And.intro @El (And.intro @ByteArray.toList_mk (And.intro @List.toList_toArray.{0} (And.intro (And.intro Bool.not_true Bool.not_false) (And.intro Bool.false_eq_true Bool.true_eq_false)))))))))):=
  (And.intro (And.intro (And.intro (And.intro (And.intro (And.intro @DL @AS.gW) (And.intro @AS.AW (And.intro @AS.qo @AS.HS))) (And.intro (And.intro @AS.vG @AS.D7) (And.intro @AS.set_set (And.intro @false_imp_iff @Option.some.injEq.{0})))) (And.intro (And.intro (And.intro @Option.map_some.{0,0} @Option.map_none.{0,0}) (And.intro @Option.bind_some.{0,0} (And.intro @Option.isSome_some.{0} @Option.isSome_none.{0}))) (And.intro (And.intro @true_and @and_true) (And.intro @and_self (And.intro @not_true_eq_false @not_false_eq_true))))) (And.intro (And.intro (And.intro (And.intro @or_self @or_false) (And.intro @false_or (And.intro @Nat.zero_add @Nat.add_zero))) (And.intro (And.intro @Nat.zero_mul @Nat.mul_one) (And.intro @Nat.one_mul (And.intro @Nat.mul_zero @Int.toNat_natCast)))) (And.intro (And.intro (And.intro @Nat.zero_ne_one @Nat.one_ne_zero) (And.intro @List.getD_cons_zero.{0} (And.intro @List.getD_cons_succ.{0} @List.length_cons.{0}))) (And.intro (And.intro @List.length_nil.{0} (And.intro @List.set_cons_zero.{0} @List.set_cons_succ.{0})) (And.intro @List.map_cons.{0,0} (And.intro @List.map_nil.{0,0} @List.drop_succ_cons.{0})))))) (And.intro (And.intro (And.intro (And.intro (And.intro @List.drop_zero.{0} @List.take_succ_cons.{0}) (And.intro @List.take_zero.{0} (And.intro @List.getElem?_cons_zero.{0} @List.getElem?_cons_succ.{0}))) (And.intro (And.intro @List.getElem?_toArray.{0} @List.all_cons.{0}) (And.intro @List.all_nil.{0} (And.intro @Bool.and_true @Bool.true_and)))) (And.intro (And.intro (And.intro @Bool.and_self @List.size_toArray.{0}) (And.intro @List.append_assoc.{0} (And.intro @List.nil_append.{0} @List.cons_append.{0}))) (And.intro (And.intro @List.append_nil.{0} (And.intro @beq_self_eq_true.{0} @decide_true)) (And.intro @decide_false (And.intro @gt_iff_lt.{0} @ge_iff_le.{0}))))) (And.intro (And.intro (And.intro (And.intro @Nat.not_lt_zero @List.replicate_zero.{0}) (And.intro @List.length_map.{0,0} (And.intro @List.length_append.{0} @List.map_append.{0,0}))) (And.intro (And.intro @pz @A6) (And.intro @Ek (And.intro @A7 @x9)))) (And.intro (And.intro (And.intro @A8 @dC) (And.intro @di (And.intro @A9 @Ba))) (And.intro (And.intro @dO (And.intro @qp @ya)) (And.intro @El (And.intro @ByteArray.toList_mk (And.intro @List.toList_toArray.{0} (And.intro (And.intro Bool.not_true Bool.not_false) (And.intro Bool.false_eq_true Bool.true_eq_false))))))))))
end Go.AM
namespace Go.AM
open Go Go.RowKit
theorem Gt{G:Gh}{x:AV}{v:Value}(o:∃a l c,v=.slice a l c)(r:ar G [x] v.cells.toList):av G x v:=by
  obtain⟨a,l,c,rfl⟩:=o;simp only[Value.cells,ar] at r;obtain⟨u,us,h,k,rfl⟩:=r;cases h;exact k
theorem KP{G:Gh}{xs:List AV}{v:Value}(o:∃cs,v=.agg cs)(r:ar G xs v.cells.toList):av G (.agg xs) v:=by
  obtain⟨cs,rfl⟩:=o;simp only[Value.cells] at r;simp only[av];exact⟨cs.toList,by simp,r⟩
theorem ar.cons{G:Gh}{x:AV}{u:Value}{xs:List AV}{us:List Value}(h:av G x u)(k:ar G xs us):ar G (x::xs) (u::us):=by
  simp only[ar];exact⟨u,us,rfl,h,k⟩
theorem ar.none{G:Gh}:ar G [] []:=by simp only[ar]
theorem ed.rows{sz:Nat}{e:Ty}{gD:List AV}(h:ed (.slice sz e) gD):∃els:List (List AV),gD=[.sl sz els.length els.flatten .any]∧els.length≤maxLen∧∀el∈els,el.length=sz∧ed e el:=by
  simpa only[ed] using h
theorem yb{sz:Nat}:∀{els:List (List AV)}{i:Nat}(h:i<els.length),(∀el∈els,el.length=sz)→(els.flatten.drop (i*sz)).take sz=els[i]
  |[],i,h,_=>by simp at h
  |e::els,0,h,k=>by
    have:=k e (by simp);simp[List.take_append,this]
  |e::els,i+1,h,k=>by
    have he:=k e (by simp);have ih:=yb (els:=els) (i:=i) (by simpa using h) (fun el sD=>k el (by simp[sD]));rw[show(i+1)*sz=e.length+i*sz by rw[he,Nat.succ_mul,Nat.add_comm],List.flatten_cons,←List.drop_drop,List.drop_left,ih];rfl
end Go.AM
