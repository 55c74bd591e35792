/- An abstract machine for the model and the rules of its walk, each proved sound over the model; no condition. -/
import Derived.Test.YtbiefppedlodiaaGreatDoorAMp3
import Derived.ChangeSlices
open And renaming intro -> ab
open ByteArray renaming mk -> cC
open Go.IntKind renaming bits -> aJ, i64 -> c9
open List renaming getElem?_eq_getElem -> ag, getElem?_eq_some_iff -> bL, length_cons -> aZ, map_cons -> aG
open Nat renaming mod_eq_of_lt -> aW, pow_le_pow_right -> bJ, zero_add -> bf
open Option.some renaming injEq -> aU
set_option linter.unusedSimpArgs false
set_option linter.unusedVariables false
namespace Go.AM
open Go Go.RowKit
inductive Ty where
  |int (k:IntKind)
  |bool
  |string
  |slice (sz:Nat) (e:Ty)
  |struct (b:Ty)
  |nil
  |cons (a b:Ty)
mutual
def B4(P:Program):Ty->TypeId->Prop
  |.int k,t=>P.underlying t=some (.int k)
  |.bool,t=>P.underlying t=some .bool
  |.string,t=>P.underlying t=some .string
  |.slice sz e,t=>∃e',P.underlying t=some (.slice e')∧P.cellsOf e'=sz∧sz≠0∧B4 P e e'
  |.struct b,t=>∃fs:Array Field,P.underlying t=some (.struct fs)∧Db P b fs.toList 0 (P.cellsOf t)
  |.nil,_=>False
  |.cons _ _,_=>False
def Db(P:Program):Ty->List Field->Nat->Nat->Prop
  |.nil,fs,o,n=>fs=[]∧o=n
  |.cons a b,fs,o,n=>∃f rest,fs=f::rest∧f.offset=o∧B4 P a f.type∧Db P b rest (o+P.cellsOf f.type) n
  |.int _,_,_,_=>False
  |.bool,_,_,_=>False
  |.string,_,_,_=>False
  |.slice _ _,_,_,_=>False
  |.struct _,_,_,_=>False
end
mutual
def kI:Ty->List AV->Prop
  |.int k,nA=>∃n,nA=[.v (.int k n)]∧(Lit.int k n).wf=true
  |.bool,nA=>∃b,nA=[.v (.bool b)]
  |.string,nA=>∃s:ByteArray,nA=[.v (.string s)]∧s.size<=maxLen
  |.slice sz e,nA=>∃els:List (List AV),nA=[.sl sz els.length els.flatten .any]∧els.length<=maxLen∧∀el∈els,el.length=sz∧kI e el
  |.struct b,nA=>Rz b nA
  |.nil,_=>False
  |.cons _ _,_=>False
def Rz:Ty->List AV->Prop
  |.nil,nA=>nA=[]
  |.cons a b,nA=>∃x y,nA=x++y∧kI a x∧Rz b y
  |.int _,_=>False
  |.bool,_=>False
  |.string,_=>False
  |.slice _ _,_=>False
  |.struct _,_=>False
end
theorem dP.one{G:Gh}{x:AV}{u:Value}(h:dQ G x u):dP G [x] [u]:=by
  simp only[dP];exact⟨u,[],rfl,h,rfl⟩
theorem cells?_some{w:World}{base n:Nat}{a:Addr}{cs:List Value}(h:w.cells? base a n=some cs):cs.length=n∧∀j u,cs[j]? =some u->w.cell? (a.add j)=some u:=by
  unfold World.cells? at h;split at h
  · have hl:=mapM_some_length h;simp only[List.length_range] at hl;refine⟨hl,fun j u hj=>?_⟩;have Jw:j<cs.length:=(bL.1 hj).1;have hr:(List.range n)[j]? =some j:=(by rw[List.getElem?_range oM]);have:=mapM_some_get h j j hr;rw[this,hj]
  · cases h
theorem add_add(b off i j:Nat):(⟨b,off,none⟩:Addr).add (i+j)=((⟨b,off,none⟩:Addr).add i).add j:=by
  simp[gI,Nat.add_assoc]
section
variable{P:Program}{H:Type}{enc:TypeId×Value->H}{w:World}{base:Nat}{spare:Nat->Bool}{held:Bool}
theorem JK{c len:Nat}{b off:Nat}{el:Nat->List Value->Prop}{T:List AV->Prop}
    (h:∀i,i<len->∃cs,(cs.length=c∧∀j u,cs[j]? =some u->w.cell? ((⟨b,off,none⟩:Addr).add (i*c+j))=some u)∧∃nA,dP (G0 w) nA cs∧T nA):
    ∀m,m<=len->∃(els:List (List AV))(vs:List Value),els.length=m∧vs.length=m*c∧dP (G0 w) els.flatten vs∧mT (G0 w) b off vs∧∀el∈els,el.length=c∧T el
  |0,_=>⟨[],[],rfl,sM,by simp[dP],fun j u hj=>by simp at hj,sM⟩
  |m+1,hm=>by
    obtain⟨els,vs,h1,h2,h3,h4,h5⟩:=JK (el:=el) h m oM;obtain⟨cs,⟨k1,k2⟩,nA,k3,k4⟩:=h m oM;refine⟨els++[nA],vs++cs,by simp[h1],by simp[h2,k1,Nat.add_mul],by simpa using h3.append k3,?_,?_⟩
    · intro j u hj;rcases Nat.lt_or_ge j vs.length with hl|hl
      · rw[List.getElem?_append_left hl] at hj;exact h4 j u hj
      · rw[List.getElem?_append_right hl] at hj;have:=k2 _ _ hj;rw[gI] at this;rw[show off+j=off+(m*c+(j-vs.length)) from oM];exact this
    · intro e he;rcases List.mem_append.1 he with he|he
      · exact h5 e he
      · simp only[List.mem_singleton] at he;subst he;exact⟨by rw[k3.length,k1],k4⟩
mutual
theorem Hv:∀(ty:Ty){t:TypeId}{cs:List Value}{fuel:Nat}{x:DataW H×List MemPlace},B4 P ty t->DataW.trod enc P w base spare held fuel t cs=some x->∃nA,dP (G0 w) nA cs∧kI ty nA
  |.int k,t,cs,fuel,x,ht,h=>by
    simp only[B4] at ht;obtain⟨n,rfl,_,hw⟩:=DataW.trod_int ht h;exact⟨[.v (.int k n)],dP.one (by simp[dQ]),by simp only[kI];exact⟨n,rfl,hw⟩⟩
  |.bool,t,cs,fuel,x,ht,h=>by
    simp only[B4] at ht;obtain⟨n,rfl,_⟩:=DataW.trod_bool ht h;exact⟨[.v (.bool n)],dP.one (by simp[dQ]),by simp only[kI];exact⟨n,rfl⟩⟩
  |.string,t,cs,fuel,x,ht,h=>by
    simp only[B4] at ht;obtain⟨s,rfl,_,hw⟩:=DataW.trod_string ht h;exact⟨[.v (.string s)],dP.one (by simp[dQ]),by simp only[kI];exact⟨s,rfl,hw⟩⟩
  |.slice sz e,t,cs,fuel,x,ht,h=>by
    simp only[B4] at ht;obtain⟨e',hu,rfl,h0,hte⟩:=ht;rcases DataW.trod_slice hu h with⟨rfl,rfl⟩|⟨a,len,cap,elems,rest,n,_,rfl,rfl,hb,hl,hm,hlen,B3,uY,hns⟩
    · exact⟨[.sl (P.cellsOf e') 0 [] .any],dP.one (by simp only[dQ];exact .inr (.inr ⟨trivial,trivial,sM,trivial⟩)),by simp only[kI];exact⟨[],rfl,sM,sM⟩⟩
    · by_cases hz:len=0
      · subst hz;refine⟨[.sl (P.cellsOf e') 0 [] .any],dP.one ?_,?_⟩
        · simp only[dQ];exact .inr (.inl ⟨trivial,trivial,a,cap,rfl,sM⟩)
        · simp only[kI];exact⟨[],rfl,sM,sM⟩
      · have each:∀i,i<len->∃cs,w.cells? base (a.add (i*P.cellsOf e')) (P.cellsOf e')=some cs∧∃nA,dP (G0 w) nA cs∧kI e nA:=by
          intro i hi;have h1:=B3 i hi;rw[ag oM,Option.bind_eq_some_iff] at h1;obtain⟨cs,h2,h3⟩:=h1;exact⟨cs,h2,Hv e hte h3⟩
        have Xr:a.spot=none:=by
          obtain⟨cs,h1,_⟩:=each 0 oM;obtain⟨h2,h3⟩:=cells?_some h1;have h4:=h3 0 cs[0] (ag oM);have:=World.cell?_spot h4;simpa[Addr.add] using this
        obtain⟨b,off,spot⟩:=a;simp only at Xr;subst Xr;obtain⟨els,vs,k1,k2,k3,k4,k5⟩:=JK (w:=w) (b:=b) (off:=off) (c:=P.cellsOf e') (len:=len) (T:=kI e) (el:=fun _ _=>True) (fun i hi=>by
          obtain⟨cs,h1,h2⟩:=each i hi;obtain⟨h3,h4⟩:=cells?_some h1;exact⟨cs,⟨h3,fun j u hj=>by rw[add_add];exact h4 j u hj⟩,h2⟩) len (Nat.le_refl _)
        refine⟨[.sl (P.cellsOf e') els.length els.flatten .any],dP.one ?_,?_⟩
        · simp only[dQ];exact .inl ⟨b,off,cap,vs,by rw[k1],by rw[k3.length,k2,k1],oM,k3,k4,by simp only[ke]⟩
        · simp only[kI];exact⟨els,rfl,oM,k5⟩
  |.struct b,t,cs,fuel,x,ht,h=>by
    simp only[B4] at ht;obtain⟨fs,hu,hf⟩:=ht;obtain⟨xs,n,_,_,hc,hl,fG⟩:=DataW.trod_struct hu h;obtain⟨nA,h1,h2⟩:=Oh b (cs:=cs) (fuel:=n) hf hc (fun f hf'=>by
      obtain⟨i,hi⟩:=List.getElem?_of_mem hf';have:=fG i f (by simpa using hi);have Vj:i<fs.toList.length:=(bL.1 hi).1;exact⟨xs[i]'(by simp at Vj;omega),by rw[this];exact ag _⟩)
    exact⟨nA,by simpa using h1,by simpa only[kI] using h2⟩
  |.nil,t,cs,fuel,x,ht,h=>by simp only[B4] at ht
  |.cons _ _,t,cs,fuel,x,ht,h=>by simp only[B4] at ht
theorem Oh:∀(ty:Ty){fs:List Field}{o n:Nat}{cs:List Value}{fuel:Nat},Db P ty fs o n->cs.length=n->
    (∀f∈fs,∃x,DataW.trod enc P w base spare held fuel f.type ((cs.drop f.offset).take (P.cellsOf f.type))=some x)->∃nA,dP (G0 w) nA (cs.drop o)∧Rz ty nA
  |.nil,fs,o,n,cs,fuel,hf,hc,h=>by
    simp only[Db] at hf;obtain⟨rfl,rfl⟩:=hf;exact⟨[],by rw[List.drop_eq_nil_of_le oM];simp[dP],by simp only[Rz]⟩
  |.cons a b,fs,o,n,cs,fuel,hf,hc,h=>by
    simp only[Db] at hf;obtain⟨f,rest,rfl,rfl,ht,hr⟩:=hf;obtain⟨x,hx⟩:=h f sM;obtain⟨nA,h1,h2⟩:=Hv a ht hx;obtain⟨bvs,k1,k2⟩:=Oh b (fuel:=fuel) hr hc (fun g hg=>h g (by simp[hg]));refine⟨nA++bvs,?_,by simp only[Rz];exact⟨nA,bvs,rfl,h2,k2⟩⟩;have:=h1.append k1;rwa [<-List.drop_drop,List.take_append_drop] at this
  |.int _,fs,o,n,cs,fuel,hf,hc,h=>by simp only[Db] at hf
  |.bool,fs,o,n,cs,fuel,hf,hc,h=>by simp only[Db] at hf
  |.string,fs,o,n,cs,fuel,hf,hc,h=>by simp only[Db] at hf
  |.slice _ _,fs,o,n,cs,fuel,hf,hc,h=>by simp only[Db] at hf
  |.struct _,fs,o,n,cs,fuel,hf,hc,h=>by simp only[Db] at hf
end
end
theorem kI.bytes{nA:List AV}(h:kI (.slice 1 (.int .u8)) nA):∃l,nA=[dm l .any]∧l.length<=maxLen:=by
  simp only[kI] at h;obtain⟨els,rfl,hm,fG⟩:=h;have key:∀els:List (List AV),(∀el∈els,el.length=1∧∃n,el=[.v (.int .u8 n)]∧(Lit.int .u8 n).wf=true)->∃l:List UInt8,l.length=els.length∧els.flatten=l.map cU:=by
    intro els;induction els with
    |nil=>intro _;exact⟨[],rfl,rfl⟩
    |cons e els ih=>
      intro h;obtain⟨l,h1,h2⟩:=ih (fun el B3=>h el (by simp[B3]));obtain⟨_,n,rfl,hw⟩:=h e sM;obtain⟨m,rfl,hm⟩:=YW hw;refine⟨UInt8.ofNat m::l,by simp[h1],?_⟩;simp only[List.flatten_cons,h2,aG,List.singleton_append,cU];congr 3;simp[aW (show m<256 by omega)]
  obtain⟨l,h1,h2⟩:=key els fG;refine⟨l,?_,oM⟩;rw[<-h1,h2];rfl
end Go.AM
namespace Go.AM
open Go Go.RowKit
def nB(l:List UInt8):Nat:=l.foldl (fun n c=>n*256+c.toNat) 0
abbrev pn:=List UInt8×Int
def jr(n:Int)(st:pn):List UInt8×pn:=
  if st.2=0 then(if n<0 then([],st.1,2) else if(st.1.length:Int)<n then([],st.1,10) else(st.1.take n.toNat,st.1.drop n.toNat,0)) else([],st)
def oG(k:Nat)(st:pn):Nat×pn:=(nB (jr k st).1,(jr k st).2)
structure xw(s0 s:AS)(p:Nat)(st:pn):Prop where
  le:s0.le s
  new:s0.dD p=none
  obj:s.dD p=some [dm st.1 .any,.v (.int .i64 st.2)]
theorem xw.put{s0 s:AS}{p:Nat}{st:pn}(h:xw s0 s p st){l:List UInt8}{e:Int}:xw s0 (s.set p [dm l .any,.v (.int .i64 e)]) p (l,e):=
  ⟨AS.dW h.le h.new _,h.new,AS.bG _ _ _⟩
theorem xw.xft{s0 s:AS}{p:Nat}{st:pn}(h:xw s0 s p st){l:List UInt8}{e:Int}{cs:List AV}(hc:cs=[dm l .any,.v (.int .i64 e)]):xw s0 (s.set p cs) p (l,e):=hc ▸ h.put
theorem Dc(l:List UInt8)(c:UInt8):nB (l++[c])=nB l*256+c.toNat:=by simp[nB]
theorem JL(l:List UInt8):nB l<256^l.length:=by
  have key:∀(l:List UInt8)(n k:Nat),n<256^k->l.foldl (fun n c=>n*256+c.toNat) n<256^(k+l.length):=by
    intro l;induction l with
    |nil=>intro n k h;simpa using h
    |cons c l ih=>
      intro n k h;have hc:=c.toNat_lt;have:=ih (n*256+c.toNat) (k+1) (by rw[Nat.pow_succ];omega);simp only[List.foldl_cons,aZ];rw[show k+(l.length+1)=k+1+l.length from oM];exact this
  have:=key l 0 0 sM;rwa [bf] at this
theorem wI(l:List UInt8)(k:Nat):nB (l.take k)<256^k:=by
  refine Nat.lt_of_lt_of_le (JL _) (bJ dM ?_);rw[List.length_take];omega
theorem Dd(k:Nat)(st:pn):(jr k st).1.length<=k:=by
  unfold jr;split
  · split
    · simp
    · split
      · simp
      · simp;omega
  · simp
theorem Py(k:Nat)(st:pn):(oG k st).1<256^k:=
  Nat.lt_of_lt_of_le (JL _) (bJ dM (Dd k st))
theorem Mu(n:Nat)(c:UInt8)(hn:n<2^56):L5 .u64 (oo .u64 (n:Int) 8) (gq .u64 (c.toNat:Int))=((n*256+c.toNat:Nat):Int):=by
  have hc:=c.toNat_lt;have h1:oo .u64 (n:Int) (8:Int)=((n*256:Nat):Int):=by
    have:=xv (k:=.u64) rfl n 8;rw[show((8:Nat):Int)=8 from rfl] at this;rw[this];simp only[aJ];rw[aW (by simp;omega)];simp
  have h2:gq .u64 (c.toNat:Int)=(c.toNat:Int):=iS _ oM;rw[h1,h2,Ge (k:=.u64) rfl _ _ (by simp only[aJ];omega) (by simp only[aJ];omega)];congr 1;have:=Nat.two_pow_add_eq_or_of_lt (i:=8) (b:=c.toNat) oM n;rw[show n*256=2^8*n from oM,<-this]
end Go.AM
namespace Go.AM
open Go Go.RowKit
theorem Pz:Sp.any.isAny=true:=rfl
theorem RA:Sp.no.isAny=false:=rfl
theorem PA:Sp.new.isAny=false:=rfl
theorem Mv:Sp.full.isAny=false:=rfl
theorem PB(t e:Nat):(Sp.own t e).isAny=false:=rfl
theorem gK(l:List UInt8):(cC l.toArray).size=l.length:=rfl
theorem Am(l m:List UInt8):(cC l.toArray)++(cC m.toArray)=cC (l++m).toArray:=by
  apply ByteArray.ext;simp
theorem Mw(l:List UInt8)(i j:Nat):(cC l.toArray).extract i j=cC ((l.take j).drop i).toArray:=by
  apply ByteArray.ext;apply Array.ext';simp[List.extract_eq_take_drop,List.drop_take]
theorem RB:(cC #[])=cC ([]:List UInt8).toArray:=rfl
theorem eS{n:Nat}(h:n<2^62):(c9.max<(n:Int))=False:=by
  have :c9.max=9223372036854775807:=rfl;rw[this];simp;omega
theorem yB(l m:List UInt8):(l==m)=decide (l=m):=by
  by_cases h:l=m<;>simp[h]
theorem PC(l:List UInt8)(n:Nat):List.take n (l.map cU)=(l.take n).map cU:=List.map_take.symm
theorem PE(l:List UInt8)(n:Nat):List.drop n (l.map cU)=(l.drop n).map cU:=List.map_drop.symm
theorem JM{n:Nat}{cs:List AV}{sp:Sp}{m:List UInt8}(h1:n=m.length)(h2:cs=m.map cU):AV.sl 1 n cs sp=dm m sp:=by subst h1;subst h2;rfl
theorem Fg.of{n:Nat}{cs:List AV}{sp:Sp}{m:List UInt8}(h1:n=m.length)(h2:cs=m.map cU):Fg (.sl 1 n cs sp) m:=by subst h1;subst h2;exact Fg.mk m sp
theorem Fg.any(l:List UInt8):Fg (dm l .any) l:=Fg.mk l .any
theorem Vk{α:Type}{l:List α}{i:Nat}(h:i<l.length):(l.drop i).take 1=[l[i]]:=by
  rw[List.drop_eq_getElem_cons h];rfl
theorem RC{l:List UInt8}{i:Nat}(h:i<l.length):(((l.drop i).take 1).map cU)=[cU l[i]]:=by rw[Vk h];rfl
theorem js(i:Nat)(h:i<2^62):iY .i64 (i:Int) 1=((i+1:Nat):Int):=by
  rw[kh oM];rfl
theorem dB{a b:Nat}:((a:Int)<b)=(a<b):=sM
theorem Hw(x:Int)(h:x=0):(x != 0)=false:=by subst h;rfl
theorem JN(x:Int)(h:x≠0):(x != 0)=true:=by simpa using h
theorem Mx(l:List UInt8)(i:Nat)(h:i<l.length):(cC l.toArray)[i]? =some l[i]:=by
  rw[getElem?_pos (cC l.toArray) i (by simpa[gK] using h)];rfl
theorem yC{k n:Nat}{l:List UInt8}(h:n<256^k):eP k (n:Int) (l,false)=(l++be k n,false):=by
  unfold eP;rw[if_pos]
  · rfl
  · refine⟨oM,?_⟩;have e:(2:Int)^(8*k)=((256^k:Nat):Int):=(by rw[show(256:Nat)=2^8 from rfl,<-Nat.pow_mul];push_cast;rfl);rw[e];exact Int.ofNat_lt.2 h
theorem Bq{k:Nat}{m l:List UInt8}(h:m.length<256^k):iM k m (l,false)=(l++be k m.length++m,false):=by
  unfold iM;rw[yC h];rfl
theorem JO{n:Nat}(h:n<2^62):gq .i64 (n:Int)=n:=Gf oM
theorem yD{n:Nat}(h:n<2^62):gq .u64 (n:Int)=n:=iS n oM
structure xhX(s0 s:AS)(p:Nat)(st:pn):Prop where
  le:s0.le s
  new:s0.dD p=none
  obj:s.dD p=some [.v (.string ⟨st.1.toArray⟩),.v (.int .i64 st.2)]
theorem JP{n:Int}{l:List UInt8}{e:Int}(h:e≠0):jr n (l,e)=([],l,e):=by unfold jr;exact if_neg h
theorem JQ{n:Int}{l:List UInt8}(h:n<0):jr n (l,0)=([],l,2):=by unfold jr;exact(if_pos rfl).trans (if_pos h)
theorem Fh{n:Int}{l:List UInt8}(h:¬n<0)(k:(l.length:Int)<n):jr n (l,0)=([],l,10):=by unfold jr;exact(if_pos rfl).trans ((if_neg h).trans (if_pos k))
theorem My{m:Nat}{l:List UInt8}(k:m<=l.length):jr m (l,0)=(l.take m,l.drop m,0):=by unfold jr;exact(if_pos rfl).trans ((if_neg oM).trans (if_neg (by simp only;omega)))
end Go.AM
namespace Go.AM
open Go Go.RowKit
def DNx:=PLift.up (ab (ab (ab (ab (ab @Ro @Vf) (ab @Vb (ab @Px @Vc))) (ab (ab @Rp @YU) (ab @Rq (ab @Fc @Vd)))) (ab (ab (ab @Rr @JE) (ab @Rs (ab @Ve @Mn))) (ab (ab @Ak @JF) (ab @Hp (ab @Rt @Hq))))) (ab (ab (ab (ab @Ru @Hr) (ab @Rv (ab @Mo @Mp))) (ab (ab @Rx @Rw) (ab @yz (ab @Fe @Ff)))) (ab (ab (ab @JG @yA) (ab @C9 (ab @Hs @vb))) (ab (ab @Ht @JH) (ab @vd (ab @Ml @Mm))))))
theorem DN:type_of%DNx.1:=DNx.1
def UPx:=PLift.up (ab (ab (ab (ab (ab (ab @Jp @AS.pj) (ab @AS.Pw (ab @AS.Ag @AS.U9))) (ab (ab @AS.Bo @AS.Rm) (ab @AS.set_set (ab @false_imp_iff @aU.{0})))) (ab (ab (ab @Option.map_some.{0,0} @Option.map_none.{0,0}) (ab @Option.bind_some.{0,0} (ab @Option.isSome_some.{0} @Option.isSome_none.{0}))) (ab (ab @true_and @and_true) (ab @and_self (ab @not_true_eq_false @not_false_eq_true))))) (ab (ab (ab (ab @or_self @or_false) (ab @false_or (ab @bf @Nat.add_zero))) (ab (ab @Nat.zero_mul @Nat.mul_one) (ab @Nat.one_mul (ab @Nat.mul_zero @Int.toNat_natCast)))) (ab (ab (ab @Nat.zero_ne_one @Nat.one_ne_zero) (ab @List.getD_cons_zero.{0} (ab @List.getD_cons_succ.{0} @aZ.{0}))) (ab (ab @List.length_nil.{0} (ab @List.set_cons_zero.{0} @List.set_cons_succ.{0})) (ab @aG.{0,0} (ab @List.map_nil.{0,0} @List.drop_succ_cons.{0})))))) (ab (ab (ab (ab (ab @List.drop_zero.{0} @List.take_succ_cons.{0}) (ab @List.take_zero.{0} (ab @List.getElem?_cons_zero.{0} @List.getElem?_cons_succ.{0}))) (ab (ab @List.getElem?_toArray.{0} @List.all_cons.{0}) (ab @List.all_nil.{0} (ab @Bool.and_true @Bool.true_and)))) (ab (ab (ab @Bool.and_self @List.size_toArray.{0}) (ab @List.append_assoc.{0} (ab @List.nil_append.{0} @List.cons_append.{0}))) (ab (ab @List.append_nil.{0} (ab @beq_self_eq_true.{0} @decide_true)) (ab @decide_false (ab @gt_iff_lt.{0} @ge_iff_le.{0}))))) (ab (ab (ab (ab @Nat.not_lt_zero @List.replicate_zero.{0}) (ab @List.length_map.{0,0} (ab @List.length_append.{0} @List.map_append.{0,0}))) (ab (ab @Bp @Pz) (ab @RA (ab @PA @Mv)))) (ab (ab (ab @PB @lF) (ab @lG (ab @PC @PE))) (ab (ab @gK (ab @Am @Mw)) (ab @RB (ab @ByteArray.toList_mk (ab @List.toList_toArray.{0} (ab (ab Bool.not_true Bool.not_false) (ab Bool.false_eq_true Bool.true_eq_false))))))))))
theorem UP:type_of%UPx.1:=UPx.1
end Go.AM
namespace Go.AM
open Go Go.RowKit
theorem RD{G:Gh}{xs:List AV}{v:Value}(o:∃cs,v=.agg cs)(r:dP G xs v.cells.toList):dQ G (.agg xs) v:=by
  obtain⟨cs,rfl⟩:=o;simp only[Value.cells] at r;simp only[dQ];exact⟨cs.toList,sM,r⟩
theorem dP.cons{G:Gh}{x:AV}{u:Value}{xs:List AV}{us:List Value}(h:dQ G x u)(k:dP G xs us):dP G (x::xs) (u::us):=by
  simp only[dP];exact⟨u,us,rfl,h,k⟩
theorem dP.none{G:Gh}:dP G [] []:=by simp only[dP]
theorem kI.rows{sz:Nat}{e:Ty}{nA:List AV}(h:kI (.slice sz e) nA):∃els:List (List AV),nA=[.sl sz els.length els.flatten .any]∧els.length<=maxLen∧∀el∈els,el.length=sz∧kI e el:=by
  simpa only[kI] using h
theorem De{sz:Nat}:∀{els:List (List AV)}{i:Nat}(h:i<els.length),(∀el∈els,el.length=sz)->(els.flatten.drop (i*sz)).take sz=els[i]
  |[],i,h,_=>by simp at h
  |e::els,0,h,k=>by
    have:=k e sM;simp[List.take_append,this]
  |e::els,i+1,h,k=>by
    have he:=k e sM;have ih:=De (els:=els) (i:=i) (by simpa using h) (fun el B3=>k el (by simp[B3]));rw[show(i+1)*sz=e.length+i*sz by rw[he,Nat.succ_mul,Nat.add_comm],List.flatten_cons,<-List.drop_drop,List.drop_left,ih];rfl
end Go.AM
