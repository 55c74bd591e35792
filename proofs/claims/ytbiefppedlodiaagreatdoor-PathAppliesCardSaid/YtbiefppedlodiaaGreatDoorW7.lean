/- Contracts of functions, each walked once; each theorem states its conditions. -/
import Derived.Test.YtbiefppedlodiaaGreatDoorW6
import Derived.Test.YtbiefppedlodiaaGreatDoorW2
import Derived.Test.YtbiefppedlodiaaGreatDoorW4
import Derived.Test.YtbiefppedlodiaaGreatDoorW5
import Derived.Test.YtbiefppedlodiaaGreatDoorW3
import Derived.Test.YtbiefppedlodiaaGreatDoorAMp6
import Derived.Test.YtbiefppedlodiaaGreatDoorAMp7
import Derived.Test.YtbiefppedlodiaaGreatDoorW1
import Derived.Test.YtbiefppedlodiaaGreatDoorAMp5
import Derived.Test.YtbiefppedlodiaaGreatDoorAMp4
set_option linter.unusedSimpArgs false
set_option linter.unusedVariables false
open Nat renaming reduceLT → Na, reduceLeDiff → Nb, reduceEqDiff → Nc, reduceAdd → Nk, reduceMul → Nf, reducePow → Ng, reduceSub → Nh, reduceBEq → Nz
open Int renaming reduceLT → Za, reduceLE → Zb, reduceToNat → Zc
open And renaming intro → Ai
open Go.AM renaming ashift → Qa, aconv → Qb, aindexAddr → Qc, aindex → Qd, aslice → Qe, abuiltin → Qf, awp_reg_seq → wS, awp_reg_end → wE, awp_seq_k → wK, awp_cond_k → wC
open Go.AM.AV renaming cells → Qg, one → Qh
set_option maxRecDepth 100000
set_option maxHeartbeats 8000000
namespace Go.AM
namespace Aes
def NK(a:UInt8):UInt8:=(a <<< (1:UInt8)) ^^^ ((27:UInt8) &&& ((0:UInt8)-(a >>> (7:UInt8))))
def gm:Nat→UInt8→UInt8→UInt8→UInt8
  |0,o,_,_=>o
  |f+1,o,a,b=>gm f (o ^^^ (a &&& ((0:UInt8)-(b &&& 1)))) (NK a) (b >>> 1)
theorem Ig:∀(f:Nat)(o a:UInt8),gm f o a 0=o
  |0,o,a=>rfl
  |f+1,o,a=>by
    have e:o ^^^ (a &&& ((0:UInt8)-((0:UInt8) &&& 1)))=o:=by
      have :(0:UInt8)-((0:UInt8) &&& 1)=0:=(by decide);rw[this];simp
    rw[gm,e,show(0:UInt8) >>> 1=0 from by decide];exact Ig f o _
def pw:Nat→UInt8→UInt8→Nat→UInt8
  |0,o,_,_=>o
  |f+1,o,a,n=>pw f (if n%2=1 then gm 8 0 o a else o) (gm 8 0 a a) (n/2)
theorem Ih:∀(f:Nat)(o a:UInt8),pw f o a 0=o
  |0,_,_=>rfl
  |f+1,o,a=>by rw[pw];exact Ih f o _
def inv(a:UInt8):UInt8:=pw 8 1 a 254
def Zn(x:UInt8)(i:Nat):UInt8:=UInt8.ofNat (x.toNat*2^i) ||| UInt8.ofNat (x.toNat/2^(8-i))
def G9(x:UInt8):Nat→UInt8
  |0=>99 ^^^ x
  |k+1=>G9 x k ^^^ Zn x (k+1)
def box(c:UInt8):UInt8:=G9 (inv c) 4
def sb:List UInt8:=[99,124,119,123,242,107,111,197,48,1,103,43,254,215,171,118,202,130,201,125,250,89,71,240,173,212,162,175,156,164,114,192,183,253,147,38,54,63,247,204,52,165,229,241,113,216,49,21,4,199,35,195,24,150,5,154,7,18,128,226,235,39,178,117,9,131,44,26,27,110,90,160,82,59,214,179,41,227,47,132,83,209,0,237,32,252,177,91,106,203,190,57,74,76,88,207,208,239,170,251,67,77,51,133,69,249,2,127,80,60,159,168,81,163,64,143,146,157,56,245,188,182,218,33,16,255,243,210,205,12,19,236,95,151,68,23,196,167,126,61,100,93,25,115,96,129,79,220,34,42,144,136,70,238,184,20,222,94,11,219,224,50,58,10,73,6,36,92,194,211,172,98,145,149,228,121,231,200,55,109,141,213,78,169,108,86,244,234,101,122,174,8,186,120,37,46,28,166,180,198,232,221,116,31,75,189,139,138,112,62,181,102,72,3,246,14,97,53,87,185,134,193,29,158,225,248,152,17,105,217,142,148,155,30,135,233,206,85,40,223,140,161,137,13,191,230,66,104,65,153,45,15,176,84,187,22]
def S(x:UInt8):UInt8:=sb.getD x.toNat 0
theorem r4:sb.length=256:=by decide+kernel
theorem Tg:∀i,i<256→box (UInt8.ofNat i)=sb.getD i 0:=by decide+kernel
def JY:Nat→UInt8
  |0=>1
  |r+1=>NK (JY r)
def nx(k:List UInt8)(p:UInt8):List UInt8:=
  match k with
  |[k0,k1,k2,k3,k4,k5,k6,k7,k8,k9,HJ,FG,yv,zR,PG,wv]=>
    let a0:=(k0 ^^^ S zR) ^^^ p
    let a1:=k1 ^^^ S PG
    let a2:=k2 ^^^ S wv
    let a3:=k3 ^^^ S yv
    let b0:=k4 ^^^ a0
    let b1:=k5 ^^^ a1
    let b2:=k6 ^^^ a2
    let b3:=k7 ^^^ a3
    let c0:=k8 ^^^ b0
    let c1:=k9 ^^^ b1
    let c2:=HJ ^^^ b2
    let c3:=FG ^^^ b3
    [a0,a1,a2,a3,b0,b1,b2,b3,c0,c1,c2,c3,yv ^^^ c0,zR ^^^ c1,PG ^^^ c2,wv ^^^ c3]
  |_=>[]
def kr(key:List UInt8):Nat→List UInt8
  |0=>key
  |r+1=>nx (kr key r) (JY r)
theorem CW{α:Type}{l:List α}(h:l.length=16):∃k0 k1 k2 k3 k4 k5 k6 k7 k8 k9 HJ FG yv zR PG wv,l=[k0,k1,k2,k3,k4,k5,k6,k7,k8,k9,HJ,FG,yv,zR,PG,wv]:=by
  match l,h with
  |[k0,k1,k2,k3,k4,k5,k6,k7,k8,k9,HJ,FG,yv,zR,PG,wv],_=>exact⟨k0,k1,k2,k3,k4,k5,k6,k7,k8,k9,HJ,FG,yv,zR,PG,wv,rfl⟩
theorem Th{k:List UInt8}(h:k.length=16)(p:UInt8):(nx k p).length=16:=by
  obtain⟨k0,k1,k2,k3,k4,k5,k6,k7,k8,k9,HJ,FG,yv,zR,PG,wv,rfl⟩:=CW h;rfl
theorem r7{key:List UInt8}(h:key.length=16):∀r,(kr key r).length=16
  |0=>h
  |r+1=>Th (r7 h r) _
theorem Ti{k:List UInt8}(h:k.length=16)(p:UInt8)(j:Nat)(hj:j<4):(nx k p).getD j 0=if j=0 then(k.getD j 0 ^^^ S (k.getD (12+(j+1)%4) 0)) ^^^ p else k.getD j 0 ^^^ S (k.getD (12+(j+1)%4) 0):=by
  obtain⟨k0,k1,k2,k3,k4,k5,k6,k7,k8,k9,HJ,FG,yv,zR,PG,wv,rfl⟩:=CW h;rcases(show j=0∨j=1∨j=2∨j=3 by omega) with rfl|rfl|rfl|rfl<;>rfl
theorem PH{k:List UInt8}(h:k.length=16)(p:UInt8)(j:Nat)(h4:4≤j)(hj:j<16):(nx k p).getD j 0=k.getD j 0 ^^^ (nx k p).getD (j-4) 0:=by
  obtain⟨k0,k1,k2,k3,k4,k5,k6,k7,k8,k9,HJ,FG,yv,zR,PG,wv,rfl⟩:=CW h;rcases(show j=4∨j=5∨j=6∨j=7∨j=8∨j=9∨j=10∨j=11∨j=12∨j=13∨j=14∨j=15 by omega) with rfl|rfl|rfl|rfl|rfl|rfl|rfl|rfl|rfl|rfl|rfl|rfl<;>rfl
def ak(key:List UInt8)(n:Nat):UInt8:=(kr key (n/16)).getD (n%16) 0
theorem Tj{key:List UInt8}(h:key.length=16)(r j:Nat)(hj:j<4):ak key (16*(r+1)+j)=if j=0 then(ak key (16*r+j) ^^^ S (ak key (16*r+(12+(j+1)%4)))) ^^^ JY r else ak key (16*r+j) ^^^ S (ak key (16*r+(12+(j+1)%4))):=by
  have e1:(16*(r+1)+j)/16=r+1:=(by omega);have e2:(16*(r+1)+j)%16=j:=(by omega);have e3:(16*r+j)/16=r:=(by omega);have e4:(16*r+j)%16=j:=(by omega);have e5:(16*r+(12+(j+1)%4))/16=r:=(by omega);have e6:(16*r+(12+(j+1)%4))%16=12+(j+1)%4:=(by omega);simp only[ak,e1,e2,e3,e4,e5,e6];exact Ti (r7 h r) (JY r) j hj
theorem PJ{key:List UInt8}(h:key.length=16)(r j:Nat)(h4:4≤j)(hj:j<16):ak key (16*(r+1)+j)=ak key (16*r+j) ^^^ ak key (16*(r+1)+(j-4)):=by
  have e1:(16*(r+1)+j)/16=r+1:=(by omega);have e2:(16*(r+1)+j)%16=j:=(by omega);have e3:(16*r+j)/16=r:=(by omega);have e4:(16*r+j)%16=j:=(by omega);have e5:(16*(r+1)+(j-4))/16=r+1:=(by omega);have e6:(16*(r+1)+(j-4))%16=j-4:=(by omega);simp only[ak,e1,e2,e3,e4,e5,e6];exact PH (r7 h r) (JY r) j h4 hj
theorem Tk{key:List UInt8}(n:Nat)(hn:n<16):ak key n=key.getD n 0:=by
  rw[ak,Nat.div_eq_of_lt hn,Nat.mod_eq_of_lt hn];rfl
def sh(b:List UInt8)(n:Nat):UInt8:=S (b.getD (4*((n/4+n%4)%4)+n%4) 0)
def mx(c:Nat→UInt8)(i:Nat):UInt8:=(((NK (c i) ^^^ NK (c ((i+1)%4))) ^^^ c ((i+1)%4)) ^^^ c ((i+2)%4)) ^^^ c ((i+3)%4)
def Ii(b:List UInt8)(last:Bool):List UInt8:=(List.range 16).map fun n=>if last then sh b n else mx (fun i=>sh b (4*(n/4)+i)) (n%4)
def add(b k:List UInt8):List UInt8:=(List.range 16).map fun n=>b.getD n 0 ^^^ k.getD n 0
def state(key b:List UInt8):Nat→List UInt8
  |0=>add b (kr key 0)
  |r+1=>add (Ii (state key b r) (r+1==10)) (kr key (r+1))
def block(key b:List UInt8):List UInt8:=state key b 10
theorem CX(b:List UInt8)(l:Bool):(Ii b l).length=16:=by simp[Ii]
theorem CY(b k:List UInt8):(add b k).length=16:=by simp[add]
theorem nB(key b:List UInt8):∀r,(state key b r).length=16
  |0=>CY _ _
  |r+1=>CY _ _
theorem BC(key b:List UInt8):(block key b).length=16:=nB key b 10
theorem ve{α:Type}(f:Nat→α)(N n:Nat)(d:α)(h:n<N):((List.range N).map f).getD n d=f n:=by
  simp[List.getD_eq_getElem?_getD,h]
theorem Ij(b:List UInt8)(l:Bool)(n:Nat)(h:n<16):(Ii b l).getD n 0=if l then sh b n else mx (fun i=>sh b (4*(n/4)+i)) (n%4):=ve _ _ _ _ h
def first(ax:List UInt8):Nat:=hM (ax.drop 12)
def Fb(ax:List UInt8)(i:Nat):List UInt8:=ax.take 12++be 4 ((first ax+i)%4294967296)
def Ik(key ax:List UInt8)(p:Nat):UInt8:=(block (key.take 16) (Fb ax (p/16))).getD (p%16) 0
def mask(key ax text:List UInt8):List UInt8:=(List.range text.length).map fun p=>text.getD p 0 ^^^ Ik key ax p
theorem nC(key ax text:List UInt8):(mask key ax text).length=text.length:=by simp[mask]
theorem zc(key ax text:List UInt8)(p:Nat)(h:p<text.length):(mask key ax text).getD p 0=text.getD p 0 ^^^ Ik key ax p:=ve _ _ _ _ h
theorem JD(key ax text:List UInt8):mask key ax (mask key ax text)=text:=by
  apply List.ext_getElem
  · simp[mask]
  · intro p h1 h2;have hp:p<text.length:=h2;have e:=zc key ax (mask key ax text) p (by rw[nC];exact hp);rw[zc key ax text p hp,UInt8.xor_assoc,UInt8.xor_self,UInt8.xor_zero] at e;rw[List.getD_eq_getElem?_getD,List.getElem?_eq_getElem h1,List.getD_eq_getElem?_getD,List.getElem?_eq_getElem h2] at e;simpa using e
def tag(key ax beside masked:List UInt8):List UInt8:=(Mac.tag (key.drop 16) (be 4 beside.length++(beside++(ax++masked)))).take 16
theorem mF(key ax beside masked:List UInt8):(tag key ax beside masked).length=16:=by simp[tag,Mac.mF]
def dU(key ax beside text:List UInt8):List UInt8:=mask key ax text++tag key ax beside (mask key ax text)
end Aes
namespace Vault
def yl:List UInt8:=[110,111,110,99,101]
def ctx(g:List UInt8)(e:Nat):List UInt8:=be 1 g.length++g++be 8 e
def k0:List UInt8:=[169,244,63,67,64,52,17,249,117,86,100,57,122,167,125,1,230,91,103,131,115,144,199,68,248,159,166,218,250,248,1,114,135,15,162,208,108,252,211,18,83,148,90,178,179,251,67,14]
def n3:List UInt8:=[8,190,219,198,217,21,206,227,25,6,89,27,186,224,186,54]
def n4:List UInt8:=[184,102,163,253,77,158,128,5,108,65,104,250,253,115,180,138]
def m3:List UInt8:=[247,169,26,226,24,129,224,169,173,123,5,148,71,154,82,74,108,148,179,118,179,215,27,211,244,97,172,107,233,136,76,169]
def t3:List UInt8:=[8,206,240,108,85,27,1,138,119,108,80,208,57,159,143,149]
end Vault
open Go
def xcL(l:List (List UInt8)):AV:=.sl 1 l.length (l.map fun b=>al b .any) .any
def Mx(l:List (List UInt8)):Prop:=l.length≤12∧∀b∈l,b.length≤4000
instance(l:List (List UInt8)):Decidable (Mx l):=by unfold Mx;infer_instance
structure Zo where
  kind:Int
  leaf:Int
  name:List UInt8
  key:Nat
def Zo.cells(a:Zo):List AV:=[.v (.int .i64 a.kind),.v (.int .i64 a.leaf),al a.name .any,.v (.int .u64 a.key)]
def xcM(t T:List af)(f:Int)(k:Nat):Prop:=dE T∧(f=0→bd T∨(T=t∧k=3))
structure Il where
  group:List UInt8
  ij:Int
  tree:List af
  PK:List UInt8
  inter:List UInt8
  deriving DecidableEq
def Il.gH:Il:=⟨[],0,[],[],[]⟩
def Il.cells(s:Il):List AV:=[al s.group .any,.v (.int .i64 s.ij),aW s.tree,al s.PK .any,al s.inter .any]
def Il.right(s:Il):Prop:=(1≤s.group.length∧s.group.length≤16)∧0≤s.ij∧s.ij≤1048576∧bd s.tree∧s.PK.length=32∧s.inter.length=32
instance(s:Il):Decidable s.right:=by unfold Il.right;infer_instance
def Il.wf(s:Il):Prop:=dE s.tree
def Il.text(s:Il):List UInt8:=PB 1 s.group++(be 8 s.ij.toNat++(L8 s.tree++(PB 1 s.PK++(PB 1 s.inter++[]))))
abbrev xaR:Ty:=.slice 5 (.struct (.cons B2 (.cons Dc (.cons (.int .u64) (.cons Dc (.cons (.slice 1 B2) .nil))))))
end Go.AM
namespace Go.Proofs.YtbiefppedlodiaaGreatDoor
open Go Go.AM Go.Proofs Tryz
variable{Γ:Nat→List AV}
theorem PL(l:List UInt8)(i:Nat)(h:i<l.length):(ByteArray.mk l.toArray)[i]? =some l[i]:=by
  rw[getElem?_pos (ByteArray.mk l.toArray) i (by simpa[ej] using h)];rfl
theorem lN{a b:Int}(h:a=b):(a==b)=true:=by simpa using h
theorem jv{a b:Int}(h:a≠b):(a==b)=false:=by simpa using h
theorem Ox{a:Nat}(h:a=0):((a:Int)==0)=true:=by subst h;rfl
theorem HK{a:Nat}(h:a≠0):((a:Int)==0)=false:=by simpa using h
theorem X2{a k:Nat}(h:a=k):((a:Int)==(k:Int))=true:=by subst h;simp
theorem T9{a b:Int}(h:a≠b):(a != b)=true:=by simpa using h
theorem eqI{a b:Int}(h:a=b):(a != b)=false:=by simpa using h
theorem bp(i:Nat)(h:i<9223372036854775807):ec .i64 (i:Int) 1=((i+1:Nat):Int):=by
  rw[eL (by omega)];rfl
def cM.fits(c:cM):Prop:=c.props.length≤9223372036854775807∧c.path.steps.length≤9223372036854775807∧∀x∈c.path.steps,x.dw.length≤9223372036854775807
end Go.Proofs.YtbiefppedlodiaaGreatDoor
namespace Go.AM
open Go
def xh7(s0 s:AS)(x:AV)(l:List Int):Prop:=x=.sl 1 l.length (l.map aI) .new∨∃t e,x=.sl 1 l.length (l.map aI) (.own t e)∧s.own t=some e∧s0.own t=none
end Go.AM
namespace Go.Proofs.YtbiefppedlodiaaGreatDoor
open Go Go.AM Go.Proofs Tryz
variable{Γ:Nat→List AV}
def My(S:Il):Prop:=(S.tree.length≤31∧S.group.length≤40∧S.PK.length≤60∧S.inter.length≤60)∧∀n∈S.tree,uQ n
instance(S:Il):Decidable (My S):=by unfold My;infer_instance
def cM.octets(c:cM):List UInt8:=if c.right then c.text else[]
def Mz:List UInt8:=List.replicate 32 0
def c0:cM:=⟨[103],0,0,[],false,⟨0,[],[]⟩,Mz,Mz⟩
theorem KX{a b:Nat}(h:a≠b):((a:Int) != (b:Int))=true:=by simp only[bne_iff_ne,ne_eq];omega
theorem KY{a b:Nat}(h:a=b):((a:Int) != (b:Int))=false:=by subst h;simp
theorem KZ{a b:List UInt8}(h:a≠b):(a != b)=true∧(!a==b)=true:=⟨by simpa using h,by simpa using h⟩
theorem K9{a b:List UInt8}(h:a=b):(a != b)=false∧(!a==b)=false:=by subst h;simp
end Go.Proofs.YtbiefppedlodiaaGreatDoor
namespace Go.AM
theorem zd{α:Type}{c:Prop}[Decidable c]{x:α}{y:Option α}(h:(if c then some x else y)=none):¬c∧y=none:=by
  split at h
  · cases h
  · exact⟨by assumption,h⟩
def ze(P:Int→Bool)(acc:List Int)(f:Int):List Int:=if P f=true∧f∉acc then acc++[f] else acc
def iQ(P:Int→Bool)(S:List Int):List Int:=S.foldl (ze P) []
def Cs(P:Int→Bool)(fresh:List Int)(n:Nat):List Int:=((List.range n).map fun k=>((k:Nat):Int)).filter fun x=>decide (x∈fresh)&&P x
theorem JE(P:Int→Bool)(S:List Int):(iQ P S).length≤S.length:=by
  have :∀(S acc:List Int),(S.foldl (ze P) acc).length≤acc.length+S.length:=by
    intro S;induction S with
    |nil=>simp
    |cons f S ih=>
      intro acc;rw[List.foldl_cons];have h1:=ih (ze P acc f);have h2:(ze P acc f).length≤acc.length+1:=(by unfold ze;split <;>simp);simp only[List.length_cons];omega
  simpa[iQ] using this S []
theorem Ha(P:Int→Bool)(S:List Int)(f:Int):iQ P (S++[f])=ze P (iQ P S) f:=by simp[iQ]
theorem zf(P:Int→Bool):∀(S acc:List Int),S.Pairwise (·≤·)→acc.Pairwise (· < ·)→(∀a∈acc,∀b∈S,a≤b)→
    (S.foldl (ze P) acc).Pairwise (· < ·)∧∀x,x∈S.foldl (ze P) acc↔x∈acc∨(x∈S∧P x=true)
  |[],acc,_,h2,_=>by simp[h2]
  |f::S,acc,h1,h2,h3=>by
    rw[List.pairwise_cons] at h1;rw[List.foldl_cons];by_cases hc:P f=true∧f∉acc
    · have e:ze P acc f=acc++[f]:=if_pos hc;rw[e];obtain⟨i1,i2⟩:=zf P S (acc++[f]) h1.2 (by
        rw[List.pairwise_append];refine⟨h2,by simp,fun a ha b hb=>?_⟩;simp only[List.mem_singleton] at hb;subst hb;have:=h3 a ha b (by simp);have :a≠b:=fun e=>hc.2 (e ▸ ha);omega) (by
        intro a ha b hb;simp only[List.mem_append,List.mem_singleton] at ha;rcases ha with ha|rfl
        · exact h3 a ha b (by simp[hb])
        · exact h1.1 b hb)
      refine⟨i1,fun x=>?_⟩;rw[i2];simp only[List.mem_append,List.mem_cons,List.not_mem_nil,or_false];constructor
      · rintro((a|rfl)|⟨a,b⟩)
        · exact .inl a
        · exact .inr ⟨.inl rfl,hc.1⟩
        · exact .inr ⟨.inr a,b⟩
      · rintro(a|⟨rfl|a,b⟩)
        · exact .inl (.inl a)
        · exact .inl (.inr rfl)
        · exact .inr ⟨a,b⟩
    · have e:ze P acc f=acc:=if_neg hc;rw[e];obtain⟨i1,i2⟩:=zf P S acc h1.2 h2 (fun a ha b hb=>h3 a ha b (by simp[hb]));refine⟨i1,fun x=>?_⟩;rw[i2];simp only[List.mem_cons];constructor
      · rintro(a|⟨a,b⟩)
        · exact .inl a
        · exact .inr ⟨.inr a,b⟩
      · rintro(a|⟨rfl|a,b⟩)
        · exact .inl a
        · by_cases hm:x∈acc
          · exact .inl hm
          · exact absurd ⟨b,hm⟩ hc
        · exact .inr ⟨a,b⟩
theorem MA(P:Int→Bool)(S:List Int)(h:S.Pairwise (·≤·)):(iQ P S).Pairwise (· < ·)∧∀x,x∈iQ P S↔x∈S∧P x=true:=by
  have:=zf P S [] h (by simp) (by simp);simpa[iQ] using this
theorem tZ:∀{a b:List Int},a.Pairwise (· < ·)→b.Pairwise (· < ·)→(∀x,x∈a↔x∈b)→a=b
  |[],b,_,_,h=>by
    cases b with
    |nil=>rfl
    |cons y b=>exact absurd ((h y).2 (by simp)) (by simp)
  |x::a,[],_,_,h=>absurd ((h x).1 (by simp)) (by simp)
  |x::a,y::b,h1,h2,h=>by
    rw[List.pairwise_cons] at h1 h2;have T5:x=y:=by
      have hx:=(h x).1 (by simp);have hy:=(h y).2 (by simp);simp only[List.mem_cons] at hx hy;rcases hx with rfl|hx
      · rfl
      · rcases hy with rfl|hy
        · rfl
        · have:=h1.1 y hy;have:=h2.1 x hx;omega
    subst T5;rw[tZ h1.2 h2.2 fun z=>?_];have:=h z;simp only[List.mem_cons] at this;constructor
    · intro hz;rcases this.1 (.inr hz) with rfl|k
      · have:=h1.1 z hz;omega
      · exact k
    · intro hz;rcases this.2 (.inr hz) with rfl|k
      · have:=h2.1 z hz;omega
      · exact k
theorem PM(P:Int→Bool)(fresh:List Int)(n:Nat)(hP:∀x,P x=true→0≤x∧x<(n:Int)):iQ P (fresh.mergeSort fun x y=>decide (x≤y))=Cs P fresh n:=by
  have hs:(fresh.mergeSort fun x y=>decide (x≤y)).Pairwise (·≤·):=by
    have:=List.pairwise_mergeSort (le:=fun x y:Int=>decide (x≤y)) (by intro a b c;simp;omega) (by intro a b;simp;omega) fresh;simpa using this
  obtain⟨h1,h2⟩:=MA P _ hs;refine tZ h1 ?_ fun x=>?_
  · unfold Cs;refine List.Pairwise.filter _ ?_;rw[List.pairwise_map];exact(List.pairwise_lt_range).imp fun h=>by omega
  · rw[h2];unfold Cs;simp only[List.mem_filter,List.mem_map,List.mem_range,Bool.and_eq_true,decide_eq_true_eq,List.mem_mergeSort];constructor
    · rintro⟨a,b⟩;have:=hP x b;exact⟨⟨x.toNat,by omega,by omega⟩,a,b⟩
    · rintro⟨-,a,b⟩;exact⟨a,b⟩
end Go.AM
namespace Go.Proofs.YtbiefppedlodiaaGreatDoor
open Go Go.AM Go.Proofs Tryz
variable{Γ:Nat→List AV}
def zg(s0 s:AS)(r:AV)(T:List af):Prop:=∃O cap rest,r=.gR O 0 5 T.length cap∧s.aw O=some (aK af.cells T++rest)∧T.length≤cap∧s0.aw O=none∧s0.le s
theorem CZ(t:List af)(h0:t.length≠0)(ht:t.length≤2^30)(hw:∀n∈t,nq n)(s:AS):aj prog Γ 109 [aW t] s (fun r s'=>zg s s' r t):=by
  refine aj.settle (Av t ht hw s) ?_;rintro r s' ⟨TS,hT,hO⟩;have hl:TS.length=t.length:=(by rw[←hT,List.length_map]);rcases hO.row with⟨h1,_,_⟩|⟨O,cap,rest,rfl,hOb,iF,uF,BQ,Db⟩
  · exact absurd (hl ▸ h1) h0
  · obtain⟨s1,k1,k2,k3⟩:=Jl (Γ:=Γ) (hO.O3 O rfl) (.gR O 0 5 TS.length cap) TS [] s' hO.xs hO.le (hO.SY O rfl) (by simpa[aK] using hOb);rw[List.nil_append,hT] at k2;rw[hl] at k1 BQ;exact⟨_,_,by rw[hl];exact k1,O,cap,rest,rfl,k2,BQ,hO.O3 O rfl,k3⟩
theorem Aw(l:List Int)(hl:l.length≤2^40)(s:AS):aj prog Γ 111 [.qx 160 [.dr [.sl 1 l.length (l.map aI) .any]]] s (fun r s'=>r=aF (l.mergeSort fun x y=>decide (x≤y)) .any∧s'=s):=by
  have JR:=Cl (Γ:=Γ) (l.map aI) l.length (by simp) hl;rw[List.map_map] at JR;refine aj.forget (aj.settle (CE (by kernel_rfl) JR hl s) ?_ (R:=fun r s'=>r=aF (l.mergeSort fun x y=>decide (x≤y)) .any∧s.le s')) fun r s' ⟨h1,h2⟩=>⟨s,h2,h1,rfl⟩;rintro r s' ⟨oi,pA,lB,hle⟩;rcases oi with⟨h0,_,_⟩|⟨o,cap,rest,rfl,ho,iF,uF,BQ,Db⟩
  · have e:(l.mergeSort fun x y=>decide (x≤y))=[]:=List.eq_nil_of_length_eq_zero h0;rw[pA e,e];exact⟨_,_,cg.aB AV.aN,rfl,hle⟩
  · exact⟨_,_,cg.outer ho (by simp),rfl,AS.sB hle (lB o rfl)⟩
end Go.Proofs.YtbiefppedlodiaaGreatDoor
namespace Go.AM
theorem MB(P:Int→Bool)(fresh:List Int)(n:Nat):(Cs P fresh n).length≤n:=by
  unfold Cs;refine Nat.le_trans (List.length_filter_le _ _) ?_;simp
theorem zh{T:List af}{u:Nat}(hu:u<T.length)(k:Nat)(p:List UInt8)(rest:List AV):
    ((aK af.cells T++rest).set (u*5+2) (.v (.int .u64 k))).set (u*5+3) (al p .any)=aK af.cells (T.set u {nd T u with key:=k,parent:=p})++rest:=by
  have h0:=tX (c:=af.cells) (k:=5) (fun n=>rfl) hu (nd T u) rest;have h1:=tX (c:=af.cells) (k:=5) (fun n=>rfl) hu {nd T u with key:=k,parent:=p} rest;have hs:T.set u (nd T u)=T:=(by rw[rR hu];exact List.set_getElem_self hu);rw[hs] at h0;rw[←h1];generalize aK af.cells T++rest=R at h0;generalize nd T u=N at *
  obtain⟨a,b,c,d,e⟩:=N;simp only[af.cells,bn] at h0⊢;apply List.ext_getElem?;intro i;have hi:=congrArg (fun l=>l[i]?) h0;simp only[List.getElem?_set,List.length_set,Nat.add_assoc,Nat.reduceAdd] at hi⊢;by_cases e3:u*5+3=i
  · have e4:¬u*5+4=i:=(by omega);simp only[if_pos e3,if_neg e4]
  · by_cases e2:u*5+2=i
    · have e4:¬u*5+4=i:=(by omega);simp only[if_neg e3,if_pos e2,if_neg e4]
    · simp only[if_neg e3,if_neg e2] at hi⊢;exact hi.symm
end Go.AM
namespace Go.Proofs.YtbiefppedlodiaaGreatDoor
open Go Go.AM Go.Proofs Tryz
variable{Γ:Nat→List AV}
def eh(n:Nat):AV:=.v (.int .u64 n)
def tv(l:List Nat):AV:=.sl 1 l.length (l.map eh) .any
def yy(t:List af)(fresh:List Int)(up:Nat):List Int:=Cs (fun x=>fc up x&&decide (cy t x)) fresh (aM t)
def tr(t:List af)(leaf:Nat)(keys:List Nat)(fresh:List Int):Nat→List af×List UInt8
 |0=>(t,[])
 |i+1=>
  let j:=(aA leaf (aM t)).length-1-i
  let up:=(aA leaf (aM t)).getD j 0
  let p:=tr t leaf keys fresh i
  let b:af:=⟨2,[],keys.getD j 0,p.2,yy t fresh up⟩
  (p.1.set up b,od b (nA t (bZ (nodeAt leaf (aM t) j))))
theorem lS(t:List af)(leaf:Nat)(keys:List Nat)(fresh:List Int):∀i,(tr t leaf keys fresh i).1.length=t.length
 |0=>rfl
 |i+1=>by simp only[tr,List.length_set];exact lS t leaf keys fresh i
def gM(t:List af)(leaf key:Nat)(keys:List Nat)(fresh:List Int):List af:=
 let p:=tr t leaf keys fresh (aA leaf (aM t)).length
 p.1.set (2*leaf) {nd p.1 (2*leaf) with key:=key,parent:=p.2}
def Zp(s:AS)(t:List af)(leaf:Nat)(keys:List Nat)(fresh:List Int)(O cap se BD rN:Nat)(rest:List AV)(i:Nat)(s':AS):Prop:=
 s.le s'∧s'.aw se=some [.gR O 0 5 t.length cap]∧s'.aw BD=some [aF (aV (cJ leaf (aM t))) .any]∧s'.aw rN=some [al (tr t leaf keys fresh i).2 .any]∧s'.aw O=some (aK af.cells (tr t leaf keys fresh i).1++rest)
theorem Ax(dO:Γ 0=ef Sha.H0)(gg:Γ 1=Sha.K.map wV)(hG:Γ 3=fu.map pn)(t:List af)(ht:dE t)(FD:t.length≤2^30)(hw:∀n∈t,nq n)(hr:bd t)(leaf:Nat)(hm:cy t leaf)
  (key:Nat) (keys:List Nat) (hk:keys.length=(aA leaf (aM t)).length) (fresh:List Int) (hf:fresh.length≤2^40) (s:AS):
  aj prog Γ 50 [aW t,.v (.int .i64 leaf),.v (.int .u64 key),tv keys,aF fresh .any] s (fun r s'=>zg s s' r (gM t leaf key keys fresh)):=by
 refine ya func50 rfl ntmps50 results50 (by simp) ?_;have Tl:aM t≠0:=hr.1;obtain⟨cu,me⟩:Fit (aM t)∧t.length=2*aM t-1:=by
  rcases bU (t:=t) with h|h
  ·exact absurd h Tl
  ·exact h
 have pR:=cu.le;have qd:leaf<aM t:=by
  have:=hm.2.1;omega
 have uK:=fun s=>CZ (Γ:=Γ) t (by omega) FD hw s;have dL:=fun s=>iz (Γ:=Γ) hG t ht s;rw[if_pos hr] at dL;have j0:=fun s=>kT (Γ:=Γ) hG leaf (aM t) cu qd s;have Dx:=fun s=>iA (Γ:=Γ) hG leaf (aM t) cu qd s;unfold aW tv aF at *
 refine qm ?_;intro K hK;refine jM ?_;intro o5 h5 o8 h8 o9 h9;refine hK _ _ ?_;clear hK K;refine Cd (d:=9) rfl h9 ?_;refine Cd (d:=8) rfl h8 ?_;refine Cd (d:=5) rfl h5 ?_;clear h5 h8 h9;refine qm ?_;intro K hK;refine jM ?_;refine ad (uK _) ?_;rintro r s1 ⟨O,cap,rest,rfl,hO,gu,JV,pc⟩;refine jM ?_;intro se h11;refine hK _ _ ?_;clear hK K;refine qm ?_;intro K hK;refine jM ?_;refine ad (dL _) ?_;rintro r s2 ⟨rfl,rfl⟩;refine jR hK ?_;clear hK K;refine qm ?_;intro K hK;refine jM ?_;refine ad (j0 _) ?_;rintro r s3 ⟨rfl,rfl⟩;refine jM ?_;refine ad (Dx _) ?_;rintro r s4 ⟨rfl,rfl⟩;refine jM ?_;intro BD h14;refine hK _ _ ?_;clear hK K;refine qm ?_;intro K hK;refine jM ?_;intro rN Gp;refine hK _ _ ?_;clear hK K;obtain⟨MC,h14⟩:=zd h14;obtain⟨MD,Gp⟩:=zd Gp;obtain⟨Im,Gp⟩:=zd Gp;have Tm:O≠se:=(fun e=>by rw[e,h11] at hO;cases hO);have Zq:O≠BD:=(fun e=>by rw[e,h14] at hO;cases hO);have PN:O≠rN:=(fun e=>by rw[e,Gp] at hO;cases hO);have m11:s.aw se=none:=AS.le_none pc h11;have m14:s.aw BD=none:=AS.le_none pc h14;have Rg:s.aw rN=none:=AS.le_none pc Gp;have LB:(aV (aA leaf (aM t))).length=(aA leaf (aM t)).length:=bz _;have AF:=fw cu qd;refine IY (AS.ll (cs':=[al [] .any]) (AS.ae _ _ _) (.cons AV.aN .nil)) ?_;rw[AS.set_set];refine qT (by decide) ?_;intro K hK;refine jM ?_;refine ad (yj _ _ _) ?_;rintro r s5 ⟨rfl,rfl⟩;refine jR hK ?_;clear hK K;refine⟨157,_,_,fun i s'=>Zp s t leaf keys fresh O cap se BD rN rest i s',by simp only[aO,aH,LB,Nc,↓reduceIte],by kernel_rfl,yk _ _ LB (by omega),by simp,?_,?_,?_⟩
 ·refine⟨AS.aE (AS.aE (AS.aE pc m11 _) m14 _) Rg _,?_,?_,AS.ae _ _ _,?_⟩
  ·rw[AS.ao _ (Ne.symm Im),AS.ao _ (Ne.symm MC),AS.ae]
  ·rw[AS.ao _ (Ne.symm MD),AS.ae];rfl
  ·rw[AS.ao _ PN,AS.ao _ Zq,AS.ao _ Tm,hO];rfl
 ·rintro i0 x s2 hx ⟨ga,NL,q14,zW,qO⟩;obtain⟨fg,rfl⟩:i0<(aA leaf (aM t)).length∧x=[aI (((aA leaf (aM t)).length-1-i0:Nat):Int),aI ((aV (aA leaf (aM t))).getD ((aA leaf (aM t)).length-1-i0) 0)]:=by
   rw[List.getElem?_map] at hx;cases hh:(List.range (aA leaf (aM t)).length)[i0]? with
   |none=>rw[hh] at hx;cases hx
   |some v=>
    rw[hh] at hx;obtain⟨h1,h2⟩:=List.getElem?_eq_some_iff.1 hh;simp at h1 h2;subst h2;simp at hx;exact⟨h1,hx.symm⟩
  simp only[zO];have FE:(aA leaf (aM t)).length-1-i0<(aA leaf (aM t)).length:=(by omega);obtain⟨j,hj⟩:∃j,j=(aA leaf (aM t)).length-1-i0:=⟨_,rfl⟩;have SI:(aV (aA leaf (aM t))).getD j 0=(((aA leaf (aM t)).getD j 0:Nat):Int):=by
   rw[←hj] at FE;simp[aV,List.getD,FE]
  rw[←hj] at FE⊢;rw[SI];obtain⟨up,C0⟩:∃up,up=(aA leaf (aM t)).getD j 0:=⟨_,rfl⟩;rw[←C0];simp only[aI];obtain⟨par,z7⟩:∃par,par=(tr t leaf keys fresh i0).2:=⟨_,rfl⟩;obtain⟨TZ,Tn⟩:∃TZ,TZ=(tr t leaf keys fresh i0).1:=⟨_,rfl⟩;rw[←z7] at zW;rw[←Tn] at qO;have Zr:j<keys.length:=(by omega);have mi:(List.take 1 (List.drop j (keys.map eh)))[0]? =some (AV.v (.int .u64 (keys.getD j 0:Nat))):=by
   simp[List.getElem?_take,List.getD,Zr,eh]
  have cl:(0:Int)≤((j:Nat):Int):=(by omega);have bJ:((j:Nat):Int)<((keys.length:Nat):Int):=(by omega);refine jA ?_;refine jC ?_;refine⟨rfl,?_⟩;refine ah ?_;unfold al at zW;refine dC T.mixed [(rN,[.sl 1 par.length (par.map ai) .any])] [6,7] [4] [] (by kernel_rfl) (by simp only[aG,aJ,and_true];simp[AS.set,aH,zW]) ?_;intro K hK;simp only[↓bo,↓a7,da,cX,aL,aR,aG,aJ,List.any_cons,List.any_nil,List.contains_cons,List.contains_nil,Nat.reduceBEq,Bool.or_false,Bool.or_true,Bool.or_self,Bool.false_or,↓DN,Qa,Qb,Qc,Qd,Qe,Qf,Qg,Qh,reduceCtorEq,↓reduceIte,Na,Nb,Nc,Nk,Nf,Ng,Nh,Za,Zb,Zc,TT,cl,bJ,mi,zW];intro ob oi;have Zs:¬rN=ob:=(fun e=>by rw[←e,zW] at oi;cases oi);simp only[if_neg Zs,true_and,and_true];refine hK _ _ ?_;clear hK K;refine nh (AS.ll (cs':=[.v (.int .i64 2),al [] .any,.v (.int .u64 (keys.getD j 0:Nat)),al par .any,bL]) (AS.ae _ _ _) (.cons (.refl _) (.cons AV.aN (.cons (.refl _) (.cons (.refl _) (.cons (.refl _) .nil)))))) ?_;rw[AS.set_set];have S3:=AS.ae s2 ob [.v (.int .i64 2),al [] .any,.v (.int .u64 (keys.getD j 0:Nat)),al par .any,bL];have Zt:s2.le (s2.set ob [.v (.int .i64 2),al [] .any,.v (.int .u64 (keys.getD j 0:Nat)),al par .any,bL]):=AS.aE (AS.le.refl _) oi _;generalize s2.set ob [.v (.int .i64 2),al [] .any,.v (.int .u64 (keys.getD j 0:Nat)),al par .any,bL]=s3 at S3 Zt⊢;obtain⟨P,hP⟩:∃P:Int→Bool,P=fun x=>fc up x&&decide (cy t x):=⟨_,rfl⟩;obtain⟨S,hS⟩:∃S,S=fresh.mergeSort fun x y=>decide (x≤y):=⟨_,rfl⟩;have S5:S.length≤2^40:=(by rw[hS];simpa using hf);have hU:iQ P S=yy t fresh up:=by
   rw[hS,hP];refine PM _ _ _ fun x hx=>?_;simp only[Bool.and_eq_true,decide_eq_true_eq] at hx;obtain⟨-,h1,h2,-⟩:=hx;exact⟨h1,by omega⟩
  have ME:=fun s=>Aw (Γ:=Γ) fresh hf s;rw[←hS] at ME;have nQ:=fun f s=>lR (Γ:=Γ) t ht.1 f s;unfold aW at nQ;unfold aF at ME;refine wK fun K hK=>?_;refine jQ fun K hK=>?_;refine ad (Ck _ _ _) ?_;rintro r s4 ⟨rfl,rfl⟩;simp only[↓ca,↓bI,bN,↓bo,↓a7,da,cX,aL,aR,aG,aJ,List.any_cons,List.any_nil,DX,Nat.reduceBEq,↓DN,Qa,Qb,Qc,Qd,Qe,Qf,Qg,Qh,reduceCtorEq,↓reduceIte,Na,Nb,Nc,Nk,Nf,Ng,Nh,Za,Zb,Zc,TT];refine ad (ME _) ?_;rintro r s5 ⟨rfl,rfl⟩;simp only[↓ca,↓bI,bN,↓bo,↓a7,da,cX,aL,aR,aG,aJ,List.any_cons,List.any_nil,DX,Nat.reduceBEq,↓DN,Qa,Qb,Qc,Qd,Qe,Qf,Qg,Qh,reduceCtorEq,↓reduceIte,Na,Nb,Nc,Nk,Nf,Ng,Nh,Za,Zb,Zc,TT];refine hK _ _ ?_;clear hK K;refine ah ?_;refine aD (fun E s'=>∃(i:Nat)(x:AV),i≤S.length∧E 43=.sl 1 S.length (S.map aI) .any∧E 44=.v (.int .i64 S.length)∧E 45=.v (.int .i64 i)∧E 5=.dr [.sl 5 t.length (aK af.cells t) .any]∧E 11=.ptr se 0∧E 14=.ptr BD 0∧E 15=.ptr rN 0∧E 16=.v (.int .i64 j)∧E 17=.v (.int .i64 up)∧E 18=.ptr ob 0∧
    s'.aw ob=some [.v (.int .i64 2),al [] .any,.v (.int .u64 (keys.getD j 0:Nat)),al par .any,x]∧cP 1 s2 s' x (iQ P (S.take i)).length ((iQ P (S.take i)).map aI)∧s2.le s')
   (fun E _=>match E 45 with |.v (.int _ i)=>S.length-i.toNat|_=>0) ?_ ?_
  ·exact⟨0,bL,Nat.zero_le _,rfl,rfl,rfl,rfl,rfl,rfl,rfl,rfl,rfl,rfl,S3,by simpa[iQ] using cP.nil 1 s2 s5,Zt⟩
  ·rintro E1 s6 ⟨i,x,hi,Ur,To,PO,e5,wA,Us,JX,H9,Tp,NM,pd,hx,ew⟩ -
   by_cases aY:i<S.length
   ·have oZ:((i:Nat):Int)<((S.length:Nat):Int):=(by omega);have pX:(0:Int)≤((i:Nat):Int):=(by omega);have fb:(List.take 1 (List.drop i (S.map aI)))[0]? =some (AV.v (.int .i64 S[i])):=by
     simp[List.getElem?_take,aY,aI]
    have dN:iQ P (S.take (i+1))=ze P (iQ P (S.take i)) S[i]:=(by rw[List.take_succ_eq_append_getElem aY,Ha]);generalize S[i]=f at fb dN;have JF:(iQ P (S.take i)).length≤2^40:=Nat.le_trans (JE P _) (by rw[List.length_take];omega);generalize iQ P (S.take i)=acc at *
    obtain⟨vf,Rp⟩:∃vf,vf=iQ P (S.take (i+1)):=⟨_,rfl⟩;rw[←Rp] at dN;refine jB (Ai @To (Ai @PO (decide_eq_true oZ))) ?_;refine wK fun K2 aX=>?_;refine jE ?_;refine ab ?_;refine aX _ _ ?_;clear aX K2;refine wK fun K3 br=>?_;refine ah ?_;refine jB (Ai @Ur (Ai @PO (Ai @oZ (Ai @pX @fb)))) ?_;have bG:∀(E:Env)(s7:AS)(x':AV),E 43=.sl 1 S.length (S.map aI) .any→E 44=.v (.int .i64 S.length)→E 45=.v (.int .i64 i)→E 5=.dr [.sl 5 t.length (aK af.cells t) .any]→E 11=.ptr se 0→E 14=.ptr BD 0→E 15=.ptr rN 0→E 16=.v (.int .i64 j)→E 17=.v (.int .i64 up)→E 18=.ptr ob 0→
      s7.aw ob=some [.v (.int .i64 2),al [] .any,.v (.int .u64 (keys.getD j 0:Nat)),al par .any,x']→cP 1 s2 s7 x' vf.length (vf.map aI)→s2.le s7→K3 E s7:=by
     intro E s7 x' f43 f44 f45 f5 f11 f14 f15 f16 f17 f18 Tq fx yh;refine br _ _ ?_;clear br K3;refine jD (Ai @f45 (bp i (by omega))) ?_;refine⟨⟨i+1,x',aY,f43,f44,rfl,f5,f11,f14,f15,f16,f17,f18,Tq,by rw[←Rp];exact fx,yh⟩,?_⟩;simp only[PO,aH,↓reduceIte];omega
    clear br;have Zu:P f=(fc up f&&decide (cy t f)):=(by rw[hP]);have IB:=fun s=>ra (Γ:=Γ) hG up f s;have hmf:=fun s=>nQ f s;have OM:=fun s=>aj.gL (.cons hx.aB (.cons (.refl _) .nil)) (iv (Γ:=Γ) acc f (by omega) s);generalize fc up f=b1 at Zu IB;generalize decide (cy t f)=b2 at Zu hmf;have qC:P f=false→vf=acc:=(fun h=>by rw[dN];exact if_neg (by rw[h];simp));have BQ:f∈acc→vf=acc:=(fun h=>by rw[dN];exact if_neg fun k=>k.2 h);have CN:P f=true→f∉acc→vf=acc++[f]:=(fun h k=>by rw[dN];exact if_pos ⟨h,k⟩);refine jS @Tp fun K hK=>?_;refine ad (IB _) ?_;rintro r s7 ⟨rfl,rfl⟩;cases b1 with
    |false=>
     refine jR hK ?_;clear hK K;refine jF ?_;refine ab ?_;simp only[ar,az,if_true,if_false];rw[qC (by rw[Zu];rfl)] at bG;exact bG _ _ x Ur To PO e5 wA Us JX H9 Tp NM pd hx ew
    |true=>
     refine jN @e5 ?_;refine ad (hmf _) ?_;rintro r s8 ⟨rfl,rfl⟩;cases b2 with
     |false=>
      refine jR hK ?_;clear hK K;refine jF ?_;refine ab ?_;simp only[ar,az,if_true,if_false];rw[qC (by rw[Zu];rfl)] at bG;exact bG _ _ x Ur To PO e5 wA Us JX H9 Tp NM pd hx ew
     |true=>
      refine jN (Ai @NM @pd) ?_;refine ad (OM _) ?_;rintro r s9 ⟨rfl,rfl⟩;by_cases SA:f∈acc
      ·rw[decide_eq_true SA];refine jR hK ?_;clear hK K;refine jF ?_;refine ab ?_;simp only[ar,az,if_true,if_false];rw[BQ SA] at bG;exact bG _ _ x Ur To PO e5 wA Us JX H9 Tp NM pd hx ew
      ·rw[decide_eq_false SA];rw[CN (by rw[Zu];rfl) SA,List.map_append,List.length_append] at bG;refine jR hK ?_;clear hK K;refine jE ?_;rcases hx with⟨rfl,fg,rK⟩|⟨tk,ek,rfl,dM,pW⟩
       ·unfold bL at pd;refine wE fun K hK=>?_;simp only[↓DN,Qa,Qb,Qc,Qd,Qe,Qf,Qg,Qh,reduceCtorEq,↓reduceIte,Na,Nb,Nc,Nk,Nf,Ng,Nh,Za,Zb,Zc,TT,NM,pd,List.replicate_succ];intro tk dM;refine hK _ _ (bG _ _ (.sl 1 1 [.v (.int .i64 f)] (.own tk 0)) Ur To PO e5 wA Us JX H9 Tp NM ?_ ?_ ?_)
        ·rw[AS.ae];rfl
        ·have :acc=[]:=List.eq_nil_of_length_eq_zero fg;subst this;exact .inr ⟨tk,0,rfl,by simp[AS.bw,AS.set],aZ ew dM⟩
        ·exact AS.aE (AS.bj ew (aZ ew dM) 0) oi _
       ·refine wE fun K hK=>?_;simp only[↓DN,Qa,Qb,Qc,Qd,Qe,Qf,Qg,Qh,reduceCtorEq,↓reduceIte,Na,Nb,Nc,Nk,Nf,Ng,Nh,Za,Zb,Zc,TT,NM,pd,dM,List.replicate_succ];refine⟨by omega,by omega,hK _ _ (bG _ _ (.sl 1 (acc.length+1) (acc.map aI++[.v (.int .i64 f)]) (.own tk (ek+1))) Ur To PO e5 wA Us JX H9 Tp NM ?_ ?_ ?_)⟩
        ·rw[AS.ae];rfl
        ·exact .inr ⟨tk,ek+1,rfl,by simp[AS.bw,AS.set],pW⟩
        ·exact AS.aE (AS.bj ew pW (ek+1)) oi _
   ·have oZ:¬((i:Nat):Int)<((S.length:Nat):Int):=(by omega);obtain rfl:i=S.length:=(by omega);refine jB (Ai @To (Ai @PO (decide_eq_false oZ))) ?_;refine wK fun K2 aX=>?_;refine jF ?_;refine aC ?_;simp only[az,ar,if_true];refine hK _ _ ?_;clear hK aX K2 K;rw[List.take_length,hU] at hx;obtain⟨U,hUe⟩:∃U,U=yy t fresh up:=⟨_,rfl⟩;rw[←hUe] at hx;obtain⟨b,hb⟩:∃b:af,b=⟨2,[],keys.getD j 0,par,U⟩:=⟨_,rfl⟩;refine nh (AS.ll (cs':=b.cells) pd (by rw[hb];exact .cons (.refl _) (.cons (.refl _) (.cons (.refl _) (.cons (.refl _) (.cons hx.aB .nil)))))) ?_;have Io:=AS.ae s6 ob b.cells;have oq:s2.le (s6.set ob b.cells):=AS.aE ew oi _;generalize s6.set ob b.cells=s7 at Io oq⊢;have r11:=oq.aw _ _ NL;have r14:=oq.aw _ _ q14;have r15:=oq.aw _ _ zW;have rO:=oq.aw _ _ qO;have MF:TZ.length=t.length:=(by rw[Tn];exact lS ..);have Tr:up<TZ.length:=by
     have h1:up∈aA leaf (aM t):=by
      rw[C0];simp[List.getD,FE]
     have:=(yg cu qd up h1).1;omega
    have Ts:(0:Int)≤((up:Nat):Int):=(by omega);have B6:((up:Nat):Int)<((t.length:Nat):Int):=(by omega);have mn:=tX (k:=5) (fun n=>jb n) Tr b rest;have JU:(aK af.cells TZ++rest).length=TZ.length*5+rest.length:=(by rw[List.length_append,Go.AM.cL jb]);generalize aK af.cells TZ++rest=R at rO mn JU;have Zv:b.cells=[.v (.int .i64 2),al [] .any,.v (.int .u64 (keys.getD j 0:Nat)),al par .any,aF U .any]:=(by rw[hb];rfl);rw[Zv] at mn Io;simp only[bn] at mn;unfold al aF at Io mn;simp only[List.length_nil,List.map_nil] at Io mn;refine jS (Ai @wA (Ai @Tp (Ai @NM (Ai @r11 (Ai @Io (Ai @rO (Ai @Ts @B6))))))) fun K hK=>?_;refine⟨by omega,hK _ _ ?_⟩;clear hK K;rw[mn];have nOb:O≠ob:=(fun e=>by rw[←e,qO] at oi;cases oi);have xcO:BD≠ob:=(fun e=>by rw[←e,q14] at oi;cases oi);have xid:se≠ob:=(fun e=>by rw[←e,NL] at oi;cases oi);have MG:s.le (s7.set O (aK af.cells (TZ.set up b)++rest)):=AS.aE (ga.trans oq) JV _;have Zw:(s7.set O (aK af.cells (TZ.set up b)++rest)).aw se=_:=(AS.ao _ (Ne.symm Tm) _).trans r11;have Rq:(s7.set O (aK af.cells (TZ.set up b)++rest)).aw BD=_:=(AS.ao _ (Ne.symm Zq) _).trans r14;have Zx:(s7.set O (aK af.cells (TZ.set up b)++rest)).aw rN=_:=(AS.ao _ (Ne.symm PN) _).trans r15;have uO:=AS.ae s7 O (aK af.cells (TZ.set up b)++rest);have ub:(s7.set O (aK af.cells (TZ.set up b)++rest)).aw ob=_:=(AS.ao _ (Ne.symm nOb) _).trans Io;generalize s7.set O (aK af.cells (TZ.set up b)++rest)=s8 at MG Zw Rq Zx uO ub⊢;have Gn:(aV (cJ leaf (aM t))).length=(aA leaf (aM t)).length:=(by simp[bz,cJ]);have Rr:(List.take 1 (List.drop j ((aV (cJ leaf (aM t))).map aI)))[0]? =some (AV.v (.int .i64 (bZ (nodeAt leaf (aM t) j):Nat))):=by
     simp[List.getElem?_take,aV,cJ,FE,aI]
    have vX:=fun s=>As (Γ:=Γ) dO gg hG t ht (bZ (nodeAt leaf (aM t) j):Nat) s;have oR:=fun s=>u9 (Γ:=Γ) dO gg b (by rw[hb,hUe];exact Nat.le_trans (MB _ _ _) (by omega)) (nA t (bZ (nodeAt leaf (aM t) j):Nat)) (by
     unfold nA;split
     ·exact Nat.le_trans (lr t _ _) (by omega)
     ·simp) s
    rw[Zv] at oR;have xcP:(0:Int)≤((j:Nat):Int):=(by omega);have Zy:((j:Nat):Int)<(((aV (cJ leaf (aM t))).length:Nat):Int):=(by omega);obtain⟨HH,Ut⟩:∃HH,HH=nA t (bZ (nodeAt leaf (aM t) j):Nat):=⟨_,rfl⟩;rw[←Ut] at vX oR;obtain⟨PD,hPD⟩:∃PD,PD=od b HH:=⟨_,rfl⟩;rw[←hPD] at oR;obtain⟨SD,hSD⟩:∃SD,SD=aV (cJ leaf (aM t)):=⟨_,rfl⟩;rw[←hSD] at Gn Rr Rq Zy;unfold aW at vX;unfold al at vX oR;unfold aF at Rq oR;simp only[List.length_nil,List.map_nil] at oR;generalize aK af.cells t=XT at *
    have MH:¬ob=BD:=fun e=>xcO e.symm;have Tt:¬ob=rN:=fun e=>Zs e.symm;refine cD T.mixed [(ob,[.v (.int .i64 2),.sl 1 0 [] .any,.v (.int .u64 (keys.getD j 0:Nat)),.sl 1 par.length (par.map ai) .any,.sl 1 U.length (U.map aI) .any]),(BD,[.sl 1 SD.length (SD.map aI) .any])] [6,7,8] [0,2] [] (by kernel_rfl) (by simp only[aG,aJ,and_true];simp[AS.set,aH,Rq,ub,Zx]) ?_;intro K hK;simp only[↓bo,↓a7,da,cX,aL,aR,aG,aJ,List.any_cons,List.any_nil,List.contains_cons,List.contains_nil,Nat.reduceBEq,Bool.or_false,Bool.or_true,Bool.or_self,Bool.false_or,↓DN,Qa,Qb,Qc,Qd,Qe,Qf,Qg,Qh,reduceCtorEq,↓reduceIte,Na,Nb,Nc,Nk,Nf,Ng,Nh,Za,Zb,Zc,TT,e5,Us,JX,H9,NM,xcP,Zy,Rr,Rq,ub,Zx,MH,Tt];refine ad (vX _) ?_;rintro r s9 ⟨rfl,rfl⟩;simp only[↓ca,↓bI,bN,↓bo,↓a7,da,cX,aL,aR,aG,aJ,List.any_cons,List.any_nil,DX,Nat.reduceBEq,↓DN,Qa,Qb,Qc,Qd,Qe,Qf,Qg,Qh,reduceCtorEq,↓reduceIte,Na,Nb,Nc,Nk,Nf,Ng,Nh,Za,Zb,Zc,TT,Rq,ub,Zx,MH,Tt];refine ad (oR _) ?_;rintro r ON ⟨rfl,rfl⟩;have Zz:¬BD=rN:=fun e=>MD e.symm;simp only[↓ca,↓bI,bN,↓bo,↓a7,da,cX,aL,aR,aG,aJ,List.any_cons,List.any_nil,DX,Nat.reduceBEq,↓DN,Qa,Qb,Qc,Qd,Qe,Qf,Qg,Qh,reduceCtorEq,↓reduceIte,Na,Nb,Nc,Nk,Nf,Ng,Nh,Za,Zb,Zc,TT,JX,Rq,ub,Zx,MH,Tt,Zz];refine hK _ _ ?_;clear hK K;simp only[ar,true_and];have kJ:j=(aA leaf (aM t)).length-1-i0:=hj;refine⟨AS.aE MG Rg _,(AS.ao _ (Ne.symm Im) _).trans Zw,(AS.ao _ (Ne.symm MD) _).trans (by rw[Rq,hSD];rfl),?_,?_⟩
    ·rw[AS.ae,hPD,Ut,hb,hUe,z7,C0,hj];rfl
    ·rw[AS.ao _ PN,uO,hb,hUe,z7,C0,Tn,hj];rfl
 ·rw[show((List.range (aA leaf (aM t)).length).map fun i=>[aI (((aA leaf (aM t)).length-1-i:Nat):Int),aI ((aV (aA leaf (aM t))).getD ((aA leaf (aM t)).length-1-i) 0)]).length=(aA leaf (aM t)).length by simp];rintro s2 ⟨ga,NL,q14,zW,qO⟩;have MF:=lS t leaf keys fresh (aA leaf (aM t)).length;obtain⟨W,hW⟩:∃W,W=gM t leaf key keys fresh:=⟨_,rfl⟩;rw[←hW];unfold gM at hW;simp only at hW;generalize (tr t leaf keys fresh (aA leaf (aM t)).length).2=par at *
  generalize (tr t leaf keys fresh (aA leaf (aM t)).length).1=TZ at *
  have hu:2*leaf<TZ.length:=(by omega);have mn:=zh hu key par rest;have JU:(aK af.cells TZ++rest).length=TZ.length*5+rest.length:=(by rw[List.length_append,Go.AM.cL jb]);rw[←hW] at mn;have HM:W.length=t.length:=(by rw[hW,List.length_set,MF]);generalize aK af.cells TZ++rest=R at qO mn JU;unfold al at zW mn;have cl:(0:Int)≤((2*leaf:Nat):Int):=(by omega);have bJ:((2*leaf:Nat):Int)<((t.length:Nat):Int):=(by omega);have PQ:2*leaf<t.length:=(by omega);have ZA:¬se=O:=fun e=>Tm e.symm;have xcQ:¬rN=O:=fun e=>PN e.symm;refine dC T.mixed [(se,[.gR O 0 5 t.length cap]),(rN,[.sl 1 par.length (par.map ai) .any])] [10,13] [0,3,7] [] (by kernel_rfl) (by simp only[aG,aJ,and_true];simp[AS.set,aH,NL,zW]) ?_;intro K hK;simp only[↓bo,↓a7,da,cX,aL,aR,aG,aJ,List.any_cons,List.any_nil,List.contains_cons,List.contains_nil,Nat.reduceBEq,Bool.or_false,Bool.or_true,Bool.or_self,Bool.false_or,↓DN,Qa,Qb,Qc,Qd,Qe,Qf,Qg,Qh,reduceCtorEq,↓reduceIte,Na,Nb,Nc,Nk,Nf,Ng,Nh,Za,Zb,Zc,TT,bE leaf (by omega),cl,bJ,aq,PQ,NL,zW,qO,ZA,xcQ,Im,Ne.symm Im];refine⟨by omega,by rw[List.length_set];omega,hK _ _ ?_⟩;clear hK K;rw[mn];have Zw:(s2.set O (aK af.cells W++rest)).aw se=_:=(AS.ao _ ZA _).trans NL;have uO:=AS.ae s2 O (aK af.cells W++rest);have gQ:s.le (s2.set O (aK af.cells W++rest)):=AS.aE ga JV _;generalize s2.set O (aK af.cells W++rest)=s3 at Zw uO gQ⊢;refine jB @Zw ?_;refine jI ?_;exact jW ⟨O,cap,rest,by rw[HM],uO,by rw[HM];exact gu,JV,gQ⟩
theorem zg.settle{s s':AS}{r:AV}{T:List af}(h:zg s s' r T):∃s2,cg Γ s' r s2 (aW T)∧s.le s2:=by
 obtain⟨O,cap,rest,rfl,h1,_,h3,h4⟩:=h;exact⟨_,cg.outer h1 (Go.AM.cL jb _),AS.sB h4 h3⟩
theorem tu(dO:Γ 0=ef Sha.H0)(gg:Γ 1=Sha.K.map wV)(hG:Γ 3=fu.map pn)(t:List af)(ht:dE t)(FD:t.length≤2^30)(hw:∀n∈t,nq n)(hr:bd t)(leaf:Nat)(hm:cy t leaf)
  (key:Nat) (keys:List Nat) (hk:keys.length=(aA leaf (aM t)).length) (fresh:List Int) (hf:fresh.length≤2^40) (s:AS):
  aj prog Γ 50 [aW t,.v (.int .i64 leaf),.v (.int .u64 key),tv keys,aF fresh .any] s (fun r s'=>r=aW (gM t leaf key keys fresh)∧s'=s):=by
 refine aj.forget (aj.settle (Ax dO gg hG t ht FD hw hr leaf hm key keys hk fresh hf s) ?_ (R:=fun r s'=>r=aW (gM t leaf key keys fresh)∧s.le s')) fun r s' ⟨h1,h2⟩=>⟨s,h2,h1,rfl⟩;intro r s' h;obtain⟨s2,h1,h2⟩:=zg.settle (Γ:=Γ) h;exact⟨_,_,h1,rfl,h2⟩
def fO(n:Nat):Bool:=decide (2≤(n:Int))&&decide ((n:Int)≤2305843009213693949)
def p7(t:List af)(leaf:Nat)(fresh:List Int)(q:cb)(i:Nat):Bool:=
 fO q.key&&decide (q.dw.length=(bA t (bZ (nodeAt leaf (aM t) i):Nat) fresh).length)
def ja(t:List af)(leaf:Nat)(fresh:List Int)(l:List cb):Bool:=(List.range l.length).all fun i=>p7 t leaf fresh (l.getD i ⟨0,[]⟩) i
def fA(t:List af)(leaf:Int)(p:cS)(fresh:List Int):List af×Int:=
 if iZ t leaf≠0 then([],iZ t leaf)
 else if p.steps.length≠(aA leaf.toNat (aM t)).length∨fO p.key=false then([],45)
 else if ja t leaf.toNat fresh p.steps=false then([],45)
 else
  let out:=gM t leaf.toNat p.key (p.steps.map (·.key)) fresh
  if(nd out (2*leaf.toNat)).parent=p.parent then(out,0) else([],45)
theorem ln{t:List af}{i:Int}:iZ t i=0↔bd t∧cy t i:=by
 unfold iZ;split
 ·split <;>simp_all
 ·simp_all
theorem rb(dO:Γ 0=ef Sha.H0)(gg:Γ 1=Sha.K.map wV)(hG:Γ 3=fu.map pn)(t:List af)(ht:dE t)(FD:t.length≤2^30)(hw:∀n∈t,nq n)(leaf:Int)
  (p:cS) (hp:p.steps.length≤2^40) (fresh:List Int) (hf:fresh.length≤2^40) (s:AS):
  aj prog Γ 15 [aW t,.v (.int .i64 leaf),.agg p.cells,aF fresh .any] s (fun r s'=>r=.eo [aW (fA t leaf p fresh).1,.v (.int .i64 (fA t leaf p fresh).2)]∧s'=s):=by
 refine aa func15 rfl ntmps15 results15 (by simp) ?_;have Eu:=fun s=>vQ (Γ:=Γ) hG t ht leaf s;have dL:=fun s=>iz (Γ:=Γ) hG t ht s;have NA:=fun n s=>ch (Γ:=Γ) n s;have dJ:=fun x s=>iY (Γ:=Γ) hG t ht x fresh (by omega) s;have Ly:=fun hr leaf hm key keys hk s=>tu (Γ:=Γ) dO gg hG t ht FD hw hr leaf hm key keys hk fresh hf s;obtain⟨A,hA⟩:∃A,A=fA t leaf p fresh:=⟨_,rfl⟩;rw[←hA];have pA:(AV.v (.slice none 0 0)).aB (aW []):=AV.aN;obtain⟨py,JZ,iL⟩:=p;unfold cS.cells;unfold aW at Eu dL dJ⊢;unfold aF at dJ⊢;simp only at hp;have tp:=fun i(h:i<iL.length)=>mV (c:=cb.cells) (k:=2) (fun _=>rfl) h;generalize hY:aK cb.cells iL=Y at *
 generalize Ud:aK af.cells t=X at *
 unfold al;refine aU 6 (by decide) ?_;intro K hK;refine jM ?_;intro o1 h1;refine hK _ _ o1 _ rfl h1 ?_;clear hK K h1;refine wK fun K hK=>?_;refine jK (Eu _) ?_;rintro s1 rfl;by_cases he:iZ t leaf=0
 ·have e0:(iZ t leaf != 0)=false:=(by simp[he]);refine jB @e0 ?_;refine jF ?_;refine ab ?_;refine hK _ _ ?_;clear hK K;obtain⟨hr,hm⟩:=ln.1 he;obtain⟨lf,rfl⟩:=Int.eq_ofNat_of_zero_le hm.1;obtain⟨cu,me⟩:Fit (aM t)∧t.length=2*aM t-1:=by
   rcases bU (t:=t) with h|h
   ·exact absurd h hr.1
   ·exact h
  have pR:=cu.le;have gJ:lf<aM t:=by
   have:=hm.2.1;omega
  have AF:=fw cu gJ;have Dx:=fun s=>iA (Γ:=Γ) hG lf (aM t) cu gJ s;have Gn:(aV (cJ lf (aM t))).length=(aA lf (aM t)).length:=(by simp[bz,cJ]);have SC:∀i,i<(aA lf (aM t)).length→(List.take 1 (List.drop i ((aV (cJ lf (aM t))).map aI)))[0]? =some (AV.v (.int .i64 (bZ (nodeAt lf (aM t) i):Nat))):=by
   intro i hi;simp[List.getElem?_take,aV,cJ,hi,aI]
  unfold aF at Dx;generalize aV (cJ lf (aM t))=SD at *
  rw[if_pos hr] at dL;unfold fA at hA;rw[if_neg (by rw[he];simp)] at hA;simp only[Int.toNat_natCast] at hA;refine jQ fun K hK=>?_;refine ad (dL _) ?_;rintro r s2 ⟨rfl,rfl⟩;refine jM ?_;refine ad (Dx _) ?_;rintro r s3 ⟨rfl,rfl⟩;refine jR hK ?_;clear hK K;have fQ:A=([],45)→∀(E:Env)(s5:AS),s3.le s5→E 8=.v (.slice none 0 0)→E 9=.v (.int .i64 45)→bt prog (#[ResultVar.tmp 8,ResultVar.tmp 9]:Array ResultVar).toList (fun r s'=>r=.eo [.sl 5 A.1.length (aK af.cells A.1) .any,.v (.int .i64 A.2)]∧s'=s3) E s5:=by
   intro hA' E s5 hle f8 f9;rw[hA'];simp only[bt,bD,c7,f8,f9];exact⟨_,_,AV.cB pA (AV.aB.refl _),hle,rfl,rfl⟩
  refine wK fun K hK=>?_;by_cases hl:iL.length=(aA lf (aM t)).length
  ·have e1:((iL.length:Int) != (SD.length:Int))=false:=(by rw[Gn,hl];simp);refine jS @e1 fun K hK=>?_;refine ad (NA py _) ?_;rintro r s4 ⟨rfl,rfl⟩;obtain⟨q,hq⟩:∃q,q=fO py:=⟨_,rfl⟩;have I8:(decide (2≤(py:Int))&&decide ((py:Int)≤2305843009213693949))=q:=hq.symm;rw[I8];cases q with
   |false=>
    rw[if_pos (.inr hq.symm)] at hA;refine jR hK ?_;clear hK K;refine jE ?_;refine jA ?_;refine a8 ?_;try simp only[az,ar]
    exact fQ hA _ _ (AS.le.refl _) rfl rfl
   |true=>
    rw[if_neg (by rw[←hq];simp[hl])] at hA;refine jR hK ?_;clear hK K;refine jF ?_;refine ab ?_;refine hK _ _ ?_;clear hK K;have MI:∀i,(h:i<iL.length)→p7 t lf fresh iL[i] i=false→A=([],45):=by
     intro i h hb;rw[hA,if_pos];unfold ja;rw[List.all_eq_false];exact⟨i,by simpa using h,by simp[List.getD,h,hb]⟩
    have Hb:(∀i,(h:i<iL.length)→p7 t lf fresh iL[i] i=true)→ja t lf fresh iL=true:=by
     intro h;unfold ja;rw[List.all_eq_true];intro i hi;have aY:i<iL.length:=(by simpa using hi);simp[List.getD,aY,h i aY]
    obtain⟨kl,qY⟩:∃kl,kl=iL.map (·.key):=⟨_,rfl⟩;have Tu:kl.length=iL.length:=(by rw[qY,List.length_map]);have Tv:∀i,(h:i<iL.length)→(kl.take (i+1)).map eh=(kl.take i).map eh++[.v (.int .u64 (iL[i].key:Nat))]:=by
     intro i h;rw[List.take_succ_eq_append_getElem (by omega),List.map_append];simp[qY,eh]
    rw[←qY] at hA;have Nu:s4.le s4:=AS.le.refl _;refine jA ?_;refine wK fun K hK=>?_;refine jA ?_;refine ah ?_;refine aD (fun E s'=>∃(i:Nat)(x:AV),i≤iL.length∧(∀j,(h:j<iL.length)→j<i→p7 t lf fresh iL[j] j=true)∧E 39=.sl 2 iL.length Y .any∧E 40=.v (.int .i64 iL.length)∧E 41=.v (.int .i64 i)∧E 0=.sl 5 t.length X .any∧E 1=.v (.int .i64 lf)∧E 3=.sl 1 fresh.length (fresh.map aI) .any∧
      E 6=.dr [.v (.int .u64 py),.sl 1 JZ.length (JZ.map ai) .any,.sl 2 iL.length Y .any]∧E 11=.sl 1 SD.length (SD.map aI) .any∧E 12=x∧cP 1 s4 s' x i ((kl.take i).map eh)∧s4.le s')
     (fun E _=>match E 41 with |.v (.int _ i)=>iL.length-i.toNat|_=>0) ?_ ?_
    ·exact⟨0,bL,Nat.zero_le _,fun j _ h=>absurd h (Nat.not_lt_zero _),rfl,rfl,rfl,rfl,rfl,rfl,rfl,rfl,rfl,cP.nil _ _ _,Nu⟩
    ·rintro E1 s5 ⟨i,x,hi,Es,e39,e40,Uu,f0,f1,f3,f6,f11,f12,hx,fR⟩ -
     by_cases aY:i<iL.length
     ·have bJ:((i:Nat):Int)<((iL.length:Nat):Int):=(by omega);have cl:(0:Int)≤((i:Nat):Int):=(by omega);have oZ:((i:Nat):Int)<((SD.length:Nat):Int):=(by omega);have cx:=tp i aY;have Iy:=SC i (by omega);have Of:=MI i aY;have dM:=Tv i aY;refine jB (Ai @e40 (Ai @Uu (decide_eq_true bJ))) ?_;refine wK fun K2 aX=>?_;refine jE ?_;refine ab ?_;refine aX _ _ ?_;clear aX K2;refine wK fun K3 br=>?_;refine ah ?_;generalize hQe:iL[i]=Q at *
      obtain⟨qk,qs⟩:=Q;unfold cb.cells at cx;refine aU 14 (by decide) ?_;intro K4 eb;refine jN (Ai @e39 (Ai @Uu (Ai @bJ (Ai @cl @cx)))) ?_;intro o2 q2;refine eb _ _ o2 _ rfl q2 ?_;clear eb K4 q2;refine wK fun K4 eb=>?_;have zi:p7 t lf fresh ⟨qk,qs⟩ i=(fO qk&&decide (qs.length=(bA t (bZ (nodeAt lf (aM t) i):Nat) fresh).length)):=rfl;have FY:=fun s=>dJ (bZ (nodeAt lf (aM t) i):Nat) s;obtain⟨RT,hRT⟩:∃RT,RT=bA t (bZ (nodeAt lf (aM t) i):Nat) fresh:=⟨_,rfl⟩;rw[←hRT] at FY zi;obtain⟨q,PA⟩:∃q,q=fO qk:=⟨_,rfl⟩;have I9:(decide (2≤(qk:Int))&&decide ((qk:Int)≤2305843009213693949))=q:=PA.symm;have ZB:=fun s=>NA qk s;rw[I9] at ZB;rw[←PA] at zi;refine ba T.mixed [2,14] (by kernel_rfl) ?_;intro K hK;refine jN (Ai @f0 (Ai @f3 @f11)) ?_;refine ad (ZB _) ?_;rintro r s6 ⟨rfl,rfl⟩;cases q with
      |false=>
       refine jR hK ?_;clear hK K;refine jE ?_;refine jA ?_;refine a8 ?_;try simp only[az,ar]
       exact fQ (Of (by rw[zi];rfl)) _ _ fR rfl rfl
      |true=>
       refine jN (Ai @f0 (Ai @f3 (Ai @f11 (Ai @cl (Ai @oZ @Iy))))) ?_;refine ad (FY _) ?_;rintro r s7 ⟨rfl,rfl⟩;by_cases Bg:qs.length=RT.length
       ·have e1:((qs.length:Int) != (RT.length:Int))=false:=(by rw[Bg];simp);refine jV @e1 hK ?_;clear hK K;refine jF ?_;refine ab ?_;refine eb _ _ ?_;clear eb K4;have bG:∀(E:Env)(s6:AS)(x':AV),E 39=.sl 2 iL.length Y .any→E 40=.v (.int .i64 iL.length)→E 41=.v (.int .i64 i)→E 0=.sl 5 t.length X .any→E 1=.v (.int .i64 lf)→E 3=.sl 1 fresh.length (fresh.map aI) .any→
          E 6=.dr [.v (.int .u64 py),.sl 1 JZ.length (JZ.map ai) .any,.sl 2 iL.length Y .any]→E 11=.sl 1 SD.length (SD.map aI) .any→E 12=x'→cP 1 s4 s6 x' (i+1) ((kl.take (i+1)).map eh)→s4.le s6→K3 E s6:=by
         intro E s6 x' g39 g40 g41 g0 g1 g3 g6 g11 g12 gx gle;refine br _ _ ?_;clear br K3;refine jD (Ai @g41 (bp i (by omega))) ?_;refine⟨⟨i+1,x',aY,?_,g39,g40,rfl,g0,g1,g3,g6,g11,g12,gx,gle⟩,?_⟩
         ·intro j hj DA;by_cases e:j=i
          ·subst e;rw[hQe,zi,decide_eq_true Bg];rfl
          ·exact Es j hj (by omega)
         ·simp only[Uu,aH,↓reduceIte];omega
        clear br;rcases hx with⟨rfl,fg,rK⟩|⟨tk,ek,rfl,oY,pW⟩
        ·refine wE fun K hK=>?_;simp only[↓DN,Qa,Qb,Qc,Qd,Qe,Qf,Qg,Qh,reduceCtorEq,↓reduceIte,Na,Nb,Nc,Nk,Nf,Ng,Nh,Za,Zb,Zc,TT,f12,bL,List.replicate_succ];intro tk oY;refine hK _ _ (bG _ _ (.sl 1 1 [.v (.int .u64 qk)] (.own tk 0)) e39 e40 Uu f0 f1 f3 f6 f11 rfl ?_ ?_)
         ·refine .inr ⟨tk,0,?_,by simp[AS.bw],aZ fR oY⟩;rw[dM,rK];subst fg;rfl
         ·exact AS.bj fR (aZ fR oY) 0
        ·refine wE fun K hK=>?_;simp only[↓DN,Qa,Qb,Qc,Qd,Qe,Qf,Qg,Qh,reduceCtorEq,↓reduceIte,Na,Nb,Nc,Nk,Nf,Ng,Nh,Za,Zb,Zc,TT,f12,oY,List.replicate_succ];refine⟨by omega,by omega,hK _ _ (bG _ _ (.sl 1 (i+1) ((kl.take i).map eh++[.v (.int .u64 qk)]) (.own tk (ek+1))) e39 e40 Uu f0 f1 f3 f6 f11 rfl ?_ ?_)⟩
         ·exact .inr ⟨tk,ek+1,by rw[dM],by simp[AS.bw],pW⟩
         ·exact AS.bj fR pW (ek+1)
       ·have e1:((qs.length:Int) != (RT.length:Int))=true:=by
         rw[bne_iff_ne];omega
        refine jV @e1 hK ?_;clear hK K;refine jE ?_;refine jA ?_;refine a8 ?_;try simp only[az,ar]
        exact fQ (Of (by rw[zi,decide_eq_false Bg];rfl)) _ _ fR rfl rfl
     ·have bJ:¬((i:Nat):Int)<((iL.length:Nat):Int):=(by omega);refine jB (Ai @e40 (Ai @Uu (decide_eq_false bJ))) ?_;refine wK fun K2 aX=>?_;refine jF ?_;refine aC ?_;simp only[az,ar,if_true];refine hK _ _ ?_;clear hK aX K2 K;obtain rfl:i=iL.length:=(by omega);rw[if_neg (by rw[Hb fun j h=>Es j h h];simp)] at hA;rw[List.take_of_length_le (by omega)] at hx;obtain⟨out,bu⟩:∃out,out=gM t lf py kl fresh:=⟨_,rfl⟩;rw[←bu] at hA;have Uf:=fun s=>aj.gL (.cons (.refl _) (.cons (.refl _) (.cons (.refl _) (.cons hx.aB (.cons (.refl _) .nil))))) (by
       have:=Ly hr lf hm py kl (by omega) s;rw[←bu] at this;unfold tv aW aF at this;rw[Ud,Tu] at this;exact this)
      have NH:out.length=t.length:=(by rw[bu];unfold gM;simp only[List.length_set];exact lS ..);have hu:2*lf<out.length:=(by omega);have cx:=cK hu;have cl:(0:Int)≤((2*lf:Nat):Int):=(by omega);have bJ:((2*lf:Nat):Int)<((out.length:Nat):Int):=(by omega);have heq:=fun s=>dg (Γ:=Γ) (nd out (2*lf)).parent JZ s;generalize hZ:aK af.cells out=Z at *
      obtain⟨N,hN⟩:∃N,N=nd out (2*lf):=⟨_,rfl⟩;rw[←hN] at cx heq hA;obtain⟨na,nb,nc,jj,nu⟩:=N;unfold af.cells at cx;unfold al at cx heq;simp only at heq hA;refine jS (Ai @f0 (Ai @f1 (Ai @f6 (Ai @f12 @f3)))) fun K hK=>?_;refine ad (Uf _) ?_;rintro r s6 ⟨rfl,rfl⟩;refine jR hK ?_;clear hK K;refine wK fun K hK=>?_;refine ba T.mixed [8] (by kernel_rfl) ?_;intro K hK;refine jN (Ai @f1 (Ai @f6 (Ai (bE lf (by omega)) (Ai @cl (Ai @bJ (Ai @aq (Ai @hu @cx))))))) ?_;refine ad (heq _) ?_;rintro r s7 ⟨rfl,rfl⟩;by_cases PR:jj=JZ
      ·rw[if_pos PR] at hA;rw[decide_eq_true PR];refine jR hK ?_;clear hK K;refine jF ?_;refine ab ?_;refine hK _ _ ?_;clear hK K;refine jA ?_;refine jI ?_;rw[hA];refine⟨_,_,AV.aB.refl _,fR,?_,rfl⟩;rw[hZ]
      ·rw[if_neg PR] at hA;rw[decide_eq_false PR];refine jR hK ?_;clear hK K;refine jE ?_;refine jA ?_;refine a8 ?_;try simp only[az,ar]
       exact fQ hA _ _ fR rfl rfl
  ·have e1:((iL.length:Int) != (SD.length:Int))=true:=by
    rw[Gn,bne_iff_ne];omega
   rw[if_pos (.inl hl)] at hA;refine jB @e1 ?_;refine jE ?_;refine jA ?_;refine a8 ?_;try simp only[az,ar]
   exact fQ hA _ _ (AS.le.refl _) rfl rfl
 ·have e0:(iZ t leaf != 0)=true:=(by simp[he]);refine jB @e0 ?_;refine jE ?_;refine jA ?_;refine jI ?_;unfold fA at hA;rw[if_pos he] at hA;rw[hA];exact⟨_,_,AV.cB pA (AV.aB.refl _),AS.le.refl _,rfl,rfl⟩
theorem uc(t:List af)(iD:bd t)(skip:List Int)(Jz:skip.length≤2^61)(n:Nat)(hn:n<t.length)(s:AS):
    aj prog Γ 26 [aW t,.v (.int .i64 n),aF skip .any] s (fun r s'=>r=aF (bA t n skip) .any∧s'=s):=by
  obtain⟨gC,ng⟩:=iD.span hn;have hT:bA t n skip=fy t skip (lv n) n:=(by unfold bA;rw[if_pos ⟨by omega,by omega,iD⟩,Int.toNat_natCast]);refine aj.settle (r3 t iD skip Jz (lv n) n rfl ng gC s) ?_;rintro r s1 ⟨hb,hle⟩;refine⟨s,_,(cg.aB hb.aB).trans (cg.le _ hle),?_,rfl⟩;rw[hT];simp only[Nat.zero_add,List.nil_append];rfl
theorem zj(t:List af)(ht:dE t)(iD:bd t)(n:Nat)(hn:n<t.length)(s:AS):
    aj prog Γ 122 [aW t,.v (.int .i64 n)] s (fun r s'=>r=.v (.string ⟨(nA t n).toArray⟩)∧s'=s):=by
  obtain⟨gC,ng⟩:=iD.span hn;have hT:nA t n=dQ t (lv n) n:=(by unfold nA;rw[if_pos ⟨by omega,by omega,iD⟩,Int.toNat_natCast]);rw[hT];exact wL t ht iD (lv n) n rfl ng gC s
def ka(t:List af)(leaf:Nat)(keys:List Nat)(fresh:List Int):Nat→List af×List UInt8
 |0=>(t,[])
 |i+1=>
  let j:=(aA leaf (aM t)).length-1-i
  let up:=(aA leaf (aM t)).getD j 0
  let p:=ka t leaf keys fresh i
  let b:af:=⟨2,[],keys.getD j 0,p.2,yy t fresh up⟩
  (p.1.set up b,Sha.sum (lh b (nA t (bZ (nodeAt leaf (aM t) j)))))
theorem p8(t:List af)(leaf:Nat)(keys:List Nat)(fresh:List Int):∀i,(ka t leaf keys fresh i).1.length=t.length
 |0=>rfl
 |i+1=>by simp only[ka,List.length_set];exact p8 t leaf keys fresh i
theorem MJ(t:List af)(leaf:Nat)(keys:List Nat)(fresh:List Int):∀i,(ka t leaf keys fresh i).2.length≤32
 |0=>by simp[ka]
 |i+1=>by simp only[ka];exact Nat.le_of_eq (Sha.de _)
def kc(t:List af)(leaf key:Nat)(keys:List Nat)(fresh:List Int):List af:=
 let p:=ka t leaf keys fresh (aA leaf (aM t)).length
 p.1.set (2*leaf) {nd p.1 (2*leaf) with key:=key,parent:=p.2}
theorem vg(dO:Γ 0=ef Sha.H0)(gg:Γ 1=Sha.K.map wV)(t:List af)(ht:dE t)(FD:t.length≤2^30)(hr:bd t)(leaf:Nat)(hm:cy t leaf)
  (key:Nat) (keys:List Nat) (hk:keys.length=(aA leaf (aM t)).length) (hkw:∀k∈keys,k<2^64) (fresh:List Int) (hf:fresh.length≤2^40) (s:AS):
  aj prog Γ 59 [aW t,.v (.int .i64 leaf),.v (.int .u64 key),tv keys,aF fresh .any] s (fun r s'=>zg s s' r (kc t leaf key keys fresh)):=by
 refine aa func59 rfl ntmps59 results59 (by simp) ?_;have Tl:aM t≠0:=hr.1;obtain⟨cu,me⟩:Fit (aM t)∧t.length=2*aM t-1:=by
  rcases bU (t:=t) with h|h
  ·exact absurd h Tl
  ·exact h
 have pR:=cu.le;have qd:leaf<aM t:=by
  have:=hm.2.1;omega
 have AF:=fw cu qd;have dL:=fun s=>kF (Γ:=Γ) t ht.1 s;have j0:=fun s=>kv (Γ:=Γ) leaf (aM t) cu qd s;have h0:t.length≠0:=(by omega);have kO:(aK af.cells t).all AV.one=true:=by
  rw[List.all_eq_true];intro c hc;simp only[aK,List.mem_flatten,List.mem_map] at hc;obtain⟨_,⟨n,-,rfl⟩,hc⟩:=hc;simp only[af.cells,List.mem_cons,List.not_mem_nil,or_false] at hc;rcases hc with rfl|rfl|rfl|rfl|rfl<;>rfl
 unfold aW tv aF at *
 refine jA ?_;refine vF rfl (by decide) ?_;intro ops;refine jM ?_;refine⟨_,fun G a w hr=>ie (n:=0) (m:=t.length) (cs:=[]) (ds:=aK af.cells t) (e:=54) rfl underlying22 (by simp only[↓DN,Qa,Qb,Qc,Qd,Qe,Qf,Qg,Qh,reduceCtorEq,↓reduceIte,Na,Nb,Nc,Nk,Nf,Ng,Nh,Za,Zb,Zc,TT];try rfl) T.z54 (by rw[T.Be];decide) (by rw[T.Be];rfl) (by rw[T.Be];simp only[↓DN,Qa,Qb,Qc,Qd,Qe,Qf,Qg,Qh,reduceCtorEq,↓reduceIte,Na,Nb,Nc,Nk,Nf,Ng,Nh,Za,Zb,Zc,TT,gX,aO,aH,Nc,↓reduceIte]) h0 (by rw[T.U8];omega) (by omega) kO (by rw[T.Be];exact .inl ⟨rfl,rfl,.inr (.inr rfl)⟩) hr.eval hr.st,?_⟩;rw[T.Be];rintro r s2 ⟨O,cap,rest,rfl,gu,Db,Bp,oi,rfl⟩;have JV:s.aw O=none:=by
  rcases oi with h|⟨_,h⟩
  ·exact h
  ·simp[aO,aH] at h
 refine jM ?_;rw[Nat.zero_add] at *
 have hO:=AS.ae s O (aK af.cells t++rest);have pc:s.le (s.set O (aK af.cells t++rest)):=AS.aE (AS.le.refl s) JV _;generalize s.set O (aK af.cells t++rest)=s1 at hO pc⊢;refine jK (dL _) ?_;rintro s2 rfl;refine jK (j0 _) ?_;rintro s3 rfl;refine jA ?_;have LB:(aV (aA leaf (aM t))).length=(aA leaf (aM t)).length:=bz _;have YO:∀j,j<(aA leaf (aM t)).length→(List.take 1 (List.drop j ((aV (aA leaf (aM t))).map aI)))[0]? =some (AV.v (.int .i64 ((aA leaf (aM t)).getD j 0:Nat))):=by
  intro j hj;simp[List.getElem?_take,aV,List.getD,hj,aI]
 generalize hPe:aV (aA leaf (aM t))=PI at *
 have e0:di .i64 (PI.length:Int) 1=(((aA leaf (aM t)).length:Nat):Int)-1:=(by rw[ti (by omega) (by omega),LB]);refine wK fun K hK=>?_;refine jB @e0 ?_;refine ah ?_;refine aD (fun E s'=>∃i:Nat,i≤(aA leaf (aM t)).length∧E 15=.v (.int .i64 ((((aA leaf (aM t)).length:Nat):Int)-1-i))∧E 11=.gR O 0 5 t.length cap∧E 12=.v (.int .i64 (aM t))∧E 13=.sl 1 PI.length (PI.map aI) .any∧E 14=.v (.string ⟨(ka t leaf keys fresh i).2.toArray⟩)∧
   E 0=.sl 5 t.length (aK af.cells t) .any∧E 1=.v (.int .i64 leaf)∧E 2=.v (.int .u64 key)∧E 3=.sl 1 keys.length (keys.map eh) .any∧E 4=.sl 1 fresh.length (fresh.map aI) .any∧s'.aw O=some (aK af.cells (ka t leaf keys fresh i).1++rest)∧s.le s')
  (fun E _=>match E 15 with |.v (.int _ i)=>(i+1).toNat|_=>0) ?_ ?_
 ·exact⟨0,Nat.zero_le _,by simp only[aH,Nc,↓reduceIte];congr 2;omega,rfl,rfl,rfl,rfl,rfl,rfl,rfl,rfl,rfl,hO,pc⟩
 ·rintro E1 s4 ⟨i,hi,g15,g11,g12,g13,g14,g0,g1,g2,g3,g4,qO,eM⟩ -
  refine wK fun K2 aX=>?_;by_cases aY:i<(aA leaf (aM t)).length
  ·obtain⟨j,hj⟩:∃j,j=(aA leaf (aM t)).length-1-i:=⟨_,rfl⟩;have FE:j<(aA leaf (aM t)).length:=(by omega);have JX:(((aA leaf (aM t)).length:Nat):Int)-1-(i:Int)=(j:Int):=(by omega);rw[JX] at g15;have cl:decide ((0:Int)≤((j:Nat):Int))=true:=decide_eq_true (by omega);refine jB (Ai @g15 @cl) ?_;refine jE ?_;refine ab ?_;refine aX _ _ ?_;clear aX K2;refine wK fun K3 br=>?_;refine ah ?_;obtain⟨par,z7⟩:∃par,par=(ka t leaf keys fresh i).2:=⟨_,rfl⟩;obtain⟨TZ,Tn⟩:∃TZ,TZ=(ka t leaf keys fresh i).1:=⟨_,rfl⟩;rw[←z7] at g14;rw[←Tn] at qO;obtain⟨up,C0⟩:∃up,up=(aA leaf (aM t)).getD j 0:=⟨_,rfl⟩;have SI:=YO j FE;rw[←C0] at SI;have Zr:j<keys.length:=(by omega);have mi:(List.take 1 (List.drop j (keys.map eh)))[0]? =some (AV.v (.int .u64 (keys.getD j 0:Nat))):=by
    simp[List.getElem?_take,List.getD,Zr,eh]
   have Tw:(0:Int)≤((j:Nat):Int):=(by omega);have bJ:((j:Nat):Int)<((keys.length:Nat):Int):=(by omega);have ZC:((j:Nat):Int)<((PI.length:Nat):Int):=(by omega);refine jS (Ai @g15 (Ai @g3 (Ai @g14 (Ai @Tw (Ai @bJ @mi))))) fun K hK=>?_;intro ob oi;refine hK _ _ ?_;clear hK K;refine nh (AS.ll (cs':=[.v (.int .i64 2),al [] .any,.v (.int .u64 (keys.getD j 0:Nat)),al par .any,bL]) (AS.ae _ _ _) (.cons (.refl _) (.cons AV.aN (.cons (.refl _) (.cons AV.bQ (.cons (.refl _) .nil)))))) ?_;rw[AS.set_set];have S3:=AS.ae s4 ob [.v (.int .i64 2),al [] .any,.v (.int .u64 (keys.getD j 0:Nat)),al par .any,bL];have ZD:s4.le (s4.set ob [.v (.int .i64 2),al [] .any,.v (.int .u64 (keys.getD j 0:Nat)),al par .any,bL]):=AS.aE (AS.le.refl _) oi _;generalize s4.set ob [.v (.int .i64 2),al [] .any,.v (.int .u64 (keys.getD j 0:Nat)),al par .any,bL]=s5 at S3 ZD⊢;obtain⟨Q,hQ⟩:∃Q:Nat→Bool,Q=fun m=>decide (((m:Nat):Int)∈fresh)&&(fc up m&&decide (cy t m)):=⟨_,rfl⟩;have hU:∀m,((List.range (m+1)).filter Q).map (fun k=>((k:Nat):Int))=((List.range m).filter Q).map (fun k=>((k:Nat):Int))++(if Q m=true then[((m:Nat):Int)] else[]):=by
    intro m;rw[List.range_succ,List.filter_append,List.map_append];congr 1;by_cases h:Q m=true<;>simp[h]
   have hUf:((List.range (aM t)).filter Q).map (fun k=>((k:Nat):Int))=yy t fresh up:=by
    unfold yy Cs;rw[List.filter_map,hQ];rfl
   have ZE:=fun m s=>BA (Γ:=Γ) fresh m (by omega) s;have IB:=fun m s=>uX (Γ:=Γ) up m s;have nQ:=fun m s=>eP (Γ:=Γ) t ht.1 m s;unfold aW at nQ;unfold aF at ZE;refine wK fun K hK=>?_;refine jA ?_;refine ah ?_;refine aD (fun E s'=>∃(m:Nat)(x:AV)(acc:List Int),m≤aM t∧acc=((List.range m).filter Q).map (fun k=>((k:Nat):Int))∧E 17=.v (.int .i64 m)∧E 12=.v (.int .i64 (aM t))∧E 11=.gR O 0 5 t.length cap∧E 13=.sl 1 PI.length (PI.map aI) .any∧E 15=.v (.int .i64 j)∧E 16=.ptr ob 0∧
     E 0=.sl 5 t.length (aK af.cells t) .any∧E 1=.v (.int .i64 leaf)∧E 2=.v (.int .u64 key)∧E 3=.sl 1 keys.length (keys.map eh) .any∧E 4=.sl 1 fresh.length (fresh.map aI) .any∧
     s'.aw ob=some [.v (.int .i64 2),al [] .any,.v (.int .u64 (keys.getD j 0:Nat)),al par .any,x]∧cP 1 s4 s' x acc.length (acc.map aI)∧s4.le s')
    (fun E _=>match E 17 with |.v (.int _ i)=>aM t-i.toNat|_=>0) ?_ ?_
   ·exact⟨0,bL,[],Nat.zero_le _,rfl,rfl,g12,g11,g13,g15,rfl,g0,g1,g2,g3,g4,S3,cP.nil _ _ _,ZD⟩
   ·rintro E2 s6 ⟨m,x,acc,Hs,JF,Ch,yv,FG,zR,wv,JT,k0,k1,k2,k3,k4,pd,hx,ew⟩ -
    refine wK fun K5 jZ=>?_;by_cases sm:m<aM t
    ·refine jB (Ai @Ch (Ai @yv (decide_eq_true (show((m:Nat):Int)<((aM t:Nat):Int) by omega)))) ?_;refine jE ?_;refine ab ?_;refine jZ _ _ ?_;clear jZ K5;refine wK fun K6 kC=>?_;refine ah ?_;have dN:=hU m;rw[←JF] at dN;have hal:acc.length≤2^40:=by
      rw[JF,List.length_map];have:=List.length_filter_le Q (List.range m);rw[List.length_range] at this;omega
     have ZF:Q m=(decide (((m:Nat):Int)∈fresh)&&(fc up m&&decide (cy t m))):=(by rw[hQ]);have bG:∀(E:Env)(s7:AS)(x':AV)(vf:List Int),vf=((List.range (m+1)).filter Q).map (fun k=>((k:Nat):Int))→E 17=.v (.int .i64 m)→E 12=.v (.int .i64 (aM t))→E 11=.gR O 0 5 t.length cap→E 13=.sl 1 PI.length (PI.map aI) .any→E 15=.v (.int .i64 j)→E 16=.ptr ob 0→
       E 0=.sl 5 t.length (aK af.cells t) .any→E 1=.v (.int .i64 leaf)→E 2=.v (.int .u64 key)→E 3=.sl 1 keys.length (keys.map eh) .any→E 4=.sl 1 fresh.length (fresh.map aI) .any→
       s7.aw ob=some [.v (.int .i64 2),al [] .any,.v (.int .u64 (keys.getD j 0:Nat)),al par .any,x']→cP 1 s4 s7 x' vf.length (vf.map aI)→s4.le s7→K6 E s7:=by
      intro E s7 x' vf ha f17 f12 f11 f13 f15 f16 f0 f1 f2 f3 f4 Tq fx yh;refine kC _ _ ?_;clear kC K6;refine jD (Ai @f17 (bp m (by omega))) ?_;refine⟨⟨m+1,x',vf,sm,ha,rfl,f12,f11,f13,f15,f16,f0,f1,f2,f3,f4,Tq,fx,yh⟩,?_⟩;simp only[Ch,aH,↓reduceIte];omega
     clear kC;have qC:Q m=false→acc=((List.range (m+1)).filter Q).map (fun k=>((k:Nat):Int)):=(fun h=>by rw[dN,h];simp);have CN:Q m=true→acc++[((m:Nat):Int)]=((List.range (m+1)).filter Q).map (fun k=>((k:Nat):Int)):=(fun h=>by rw[dN,h];simp);obtain⟨b1,w9⟩:∃b,b=decide (((m:Nat):Int)∈fresh):=⟨_,rfl⟩;obtain⟨b2,Fu⟩:∃b,b=fc up m:=⟨_,rfl⟩;obtain⟨b3,Nt⟩:∃b,b=decide (cy t m):=⟨_,rfl⟩;have hh:=fun s=>ZE m s;have zu:=fun s=>IB m s;have hmm:=fun s=>nQ m s;rw[←w9] at hh;rw[←Fu] at zu;rw[←Nt] at hmm;rw[←w9,←Fu,←Nt] at ZF;refine jS (Ai @k4 @Ch) fun K hK=>?_;refine ad (hh _) ?_;rintro r s7 ⟨rfl,rfl⟩;cases b1 with
     |false=>
      refine jR hK ?_;clear hK K;refine jF ?_;refine ab ?_;simp only[ar,az,if_true,if_false];exact bG _ _ x acc (qC (by rw[ZF];rfl)) Ch yv FG zR wv JT k0 k1 k2 k3 k4 pd hx ew
     |true=>
      refine jN (Ai @zR (Ai @wv (Ai @Ch (Ai @Tw (Ai @ZC @SI))))) ?_;refine ad (zu _) ?_;rintro r s8 ⟨rfl,rfl⟩;cases b2 with
      |false=>
       refine jR hK ?_;clear hK K;refine jF ?_;refine ab ?_;simp only[ar,az,if_true,if_false];exact bG _ _ x acc (qC (by rw[ZF];rfl)) Ch yv FG zR wv JT k0 k1 k2 k3 k4 pd hx ew
      |true=>
       simp only[↓DM,bN,DX,Nz,↓DN,Qa,Qb,Qc,Qd,Qe,Qf,Qg,Qh,reduceCtorEq,↓reduceIte,Na,Nb,Nc,Nk,Nf,Ng,Nh,Za,Zb,Zc,TT,k0,Ch];refine ad (hmm _) ?_;rintro r s9 ⟨rfl,rfl⟩;cases b3 with
       |false=>
        refine jR hK ?_;clear hK K;refine jF ?_;refine ab ?_;simp only[ar,az,if_true,if_false];exact bG _ _ x acc (qC (by rw[ZF];rfl)) Ch yv FG zR wv JT k0 k1 k2 k3 k4 pd hx ew
       |true=>
        refine jR hK ?_;clear hK K;refine jE ?_;have hy:=CN (by rw[ZF];rfl);rcases hx with⟨rfl,fg,rK⟩|⟨tk,ek,rfl,dM,pW⟩
        ·unfold bL at pd;refine wE fun K hK=>?_;simp only[↓DN,Qa,Qb,Qc,Qd,Qe,Qf,Qg,Qh,reduceCtorEq,↓reduceIte,Na,Nb,Nc,Nk,Nf,Ng,Nh,Za,Zb,Zc,TT,JT,Ch,pd,List.replicate_succ];intro tk dM;refine hK _ _ (bG _ _ (.sl 1 1 [.v (.int .i64 m)] (.own tk 0)) _ hy Ch yv FG zR wv JT k0 k1 k2 k3 k4 ?_ ?_ ?_)
         ·rw[AS.ae];rfl
         ·obtain rfl:acc=[]:=List.eq_nil_of_length_eq_zero fg;exact .inr ⟨tk,0,rfl,by simp[AS.bw,AS.set],aZ ew dM⟩
         ·exact AS.aE (AS.bj ew (aZ ew dM) 0) oi _
        ·refine wE fun K hK=>?_;simp only[↓DN,Qa,Qb,Qc,Qd,Qe,Qf,Qg,Qh,reduceCtorEq,↓reduceIte,Na,Nb,Nc,Nk,Nf,Ng,Nh,Za,Zb,Zc,TT,JT,Ch,pd,dM,List.replicate_succ];refine⟨by omega,by omega,hK _ _ (bG _ _ (.sl 1 (acc.length+1) (acc.map aI++[.v (.int .i64 m)]) (.own tk (ek+1))) _ hy Ch yv FG zR wv JT k0 k1 k2 k3 k4 ?_ ?_ ?_)⟩
         ·rw[AS.ae];rfl
         ·exact .inr ⟨tk,ek+1,by rw[List.map_append,List.length_append];rfl,by simp[AS.bw,AS.set],pW⟩
         ·exact AS.aE (AS.bj ew pW (ek+1)) oi _
    ·obtain rfl:m=aM t:=(by omega);rw[hUf] at JF;refine jB (Ai @Ch (Ai @yv (decide_eq_false (show ¬((aM t:Nat):Int)<((aM t:Nat):Int) by omega)))) ?_;refine jF ?_;refine aC ?_;simp only[az,ar,if_true];refine hK _ _ ?_;clear hK jZ K5 K;obtain⟨b,hb⟩:∃b:af,b=⟨2,[],keys.getD j 0,par,acc⟩:=⟨_,rfl⟩;refine nh (AS.ll (cs':=b.cells) pd (by rw[hb];exact .cons (.refl _) (.cons (.refl _) (.cons (.refl _) (.cons (.refl _) (.cons hx.aB .nil)))))) ?_;have Io:=AS.ae s6 ob b.cells;have oq:s4.le (s6.set ob b.cells):=AS.aE ew oi _;generalize s6.set ob b.cells=s7 at Io oq⊢;have rO:=oq.aw _ _ qO;have MF:TZ.length=t.length:=(by rw[Tn];exact p8 ..);have Tr:up<TZ.length:=by
      have h1:up∈aA leaf (aM t):=by
       rw[C0];simp[List.getD,FE]
      have:=(yg cu qd up h1).1;omega
     have Ts:(0:Int)≤((up:Nat):Int):=(by omega);have B6:((up:Nat):Int)<((t.length:Nat):Int):=(by omega);have mn:=tX (k:=5) (fun n=>jb n) Tr b rest;have JU:(aK af.cells TZ++rest).length=TZ.length*5+rest.length:=(by rw[List.length_append,Go.AM.cL jb]);generalize aK af.cells TZ++rest=R at rO mn JU;have Zv:b.cells=[.v (.int .i64 2),al [] .any,.v (.int .u64 (keys.getD j 0:Nat)),al par .any,aF acc .any]:=(by rw[hb];rfl);rw[Zv] at mn Io;simp only[bn] at mn;unfold al aF at Io mn;simp only[List.length_nil,List.map_nil] at Io mn;have nOb:¬ob=O:=(fun e=>by rw[e,qO] at oi;cases oi);refine dC T.mixed [(ob,[.v (.int .i64 2),.sl 1 0 [] .any,.v (.int .u64 (keys.getD j 0:Nat)),.sl 1 par.length (par.map ai) .any,.sl 1 acc.length (acc.map aI) .any])] [7] [5] [] (by kernel_rfl) (by simp only[aG,aJ,and_true];simp[AS.set,aH,Io]) ?_;intro K hK;simp only[↓bo,↓a7,da,cX,aL,aR,aG,aJ,List.any_cons,List.any_nil,List.contains_cons,List.contains_nil,Nat.reduceBEq,Bool.or_false,Bool.or_true,Bool.or_self,Bool.false_or,↓DN,Qa,Qb,Qc,Qd,Qe,Qf,Qg,Qh,reduceCtorEq,↓reduceIte,Na,Nb,Nc,Nk,Nf,Ng,Nh,Za,Zb,Zc,TT,FG,zR,wv,JT,Tw,ZC,SI,Ts,B6,Io,rO,nOb];refine⟨by omega,hK _ _ ?_⟩;clear hK K;rw[mn];have MG:s.le (s7.set O (aK af.cells (TZ.set up b)++rest)):=AS.aE (eM.trans oq) JV _;have uO:=AS.ae s7 O (aK af.cells (TZ.set up b)++rest);have ub:(s7.set O (aK af.cells (TZ.set up b)++rest)).aw ob=_:=(AS.ao _ nOb _).trans Io;generalize s7.set O (aK af.cells (TZ.set up b)++rest)=s8 at MG uO ub⊢;have Hc:=fun s=>oQ (Γ:=Γ) leaf (aM t) j cu qd FE s;have J7:=(nr cu (iB cu qd FE).1 (iB cu qd FE).2.1).2.2.2.2;have vX:=fun s=>zj (Γ:=Γ) t ht hr (bZ (nodeAt leaf (aM t) j)) (by omega) s;obtain⟨HH,Ut⟩:∃HH,HH=nA t (bZ (nodeAt leaf (aM t) j):Nat):=⟨_,rfl⟩;have hHl:HH.length≤2^30:=by
      rw[Ut];unfold nA;split
      ·exact Nat.le_trans (lr t _ _) (by omega)
      ·simp
     rw[←Ut] at vX;have ZG:par.length≤32:=(by rw[z7];exact MJ ..);have oR:=fun s=>qB (Γ:=Γ) b (by rw[hb];simp only[List.getD,List.getElem?_eq_getElem Zr,Option.getD_some];exact hkw _ (List.getElem_mem Zr)) (by rw[hb];exact ZG) HH hHl s;rw[Zv] at oR;unfold aW at vX;unfold al aF at oR;simp only[List.length_nil,List.map_nil] at oR;refine cD T.mixed [(ob,[.v (.int .i64 2),.sl 1 0 [] .any,.v (.int .u64 (keys.getD j 0:Nat)),.sl 1 par.length (par.map ai) .any,.sl 1 acc.length (acc.map aI) .any])] [5,6,7] [0] [] (by kernel_rfl) (by simp only[aG,aJ,and_true];simp[AS.set,aH,ub]) ?_;intro K hK;simp only[↓bo,↓a7,da,cX,aL,aR,aG,aJ,List.any_cons,List.any_nil,List.contains_cons,List.contains_nil,Nat.reduceBEq,Bool.or_false,Bool.or_true,Bool.or_self,Bool.false_or,↓DN,Qa,Qb,Qc,Qd,Qe,Qf,Qg,Qh,reduceCtorEq,↓reduceIte,Na,Nb,Nc,Nk,Nf,Ng,Nh,Za,Zb,Zc,TT,JT,k0,k1,yv,wv,ub];refine ad (Hc _) ?_;rintro r s9 ⟨rfl,rfl⟩;simp only[↓ca,↓bI,bN,↓bo,↓a7,da,cX,aL,aR,aG,aJ,List.any_cons,List.any_nil,DX,Nat.reduceBEq,↓DN,Qa,Qb,Qc,Qd,Qe,Qf,Qg,Qh,reduceCtorEq,↓reduceIte,Na,Nb,Nc,Nk,Nf,Ng,Nh,Za,Zb,Zc,TT,ub];refine ad (vX _) ?_;rintro r ON ⟨rfl,rfl⟩;simp only[↓ca,↓bI,bN,↓bo,↓a7,da,cX,aL,aR,aG,aJ,List.any_cons,List.any_nil,DX,Nat.reduceBEq,↓DN,Qa,Qb,Qc,Qd,Qe,Qf,Qg,Qh,reduceCtorEq,↓reduceIte,Na,Nb,Nc,Nk,Nf,Ng,Nh,Za,Zb,Zc,TT,ub];refine ad (oR _) ?_;rintro r OO ⟨rfl,rfl⟩;simp only[↓ca,↓bI,bN,↓bo,↓a7,da,cX,aL,aR,aG,aJ,List.any_cons,List.any_nil,DX,Nat.reduceBEq,↓DN,Qa,Qb,Qc,Qd,Qe,Qf,Qg,Qh,reduceCtorEq,↓reduceIte,Na,Nb,Nc,Nk,Nf,Ng,Nh,Za,Zb,Zc,TT,ub];refine hK _ _ ?_;clear hK K;simp only[ar,az,if_true,if_false];refine br _ _ ?_;clear br K3;refine jD (Ai @wv (ti (k:=(j:Int)) (by omega) (by omega))) ?_;refine⟨⟨i+1,aY,?_,FG,yv,zR,?_,k0,k1,k2,k3,k4,?_,MG⟩,?_⟩
     ·simp only[aH,Nc,↓reduceIte];rw[show((j:Nat):Int)-1=(((aA leaf (aM t)).length:Nat):Int)-1-((i+1:Nat):Int) by omega]
     ·simp only[aH,Nc,↓reduceIte];rw[Ut,hb,JF,z7,C0,hj];rfl
     ·rw[uO,hb,JF,z7,C0,Tn,hj];rfl
     ·simp only[aH,g15,↓reduceIte,Nc];omega
  ·obtain rfl:i=(aA leaf (aM t)).length:=(by omega);have cl:decide ((0:Int)≤(((aA leaf (aM t)).length:Nat):Int)-1-(((aA leaf (aM t)).length:Nat):Int))=false:=decide_eq_false (by omega);refine jB (Ai @g15 @cl) ?_;refine jF ?_;refine aC ?_;simp only[az,ar,if_true];refine hK _ _ ?_;clear hK aX K2 K;have MF:=p8 t leaf keys fresh (aA leaf (aM t)).length;obtain⟨W,hW⟩:∃W,W=kc t leaf key keys fresh:=⟨_,rfl⟩;rw[←hW];unfold kc at hW;simp only at hW;generalize (ka t leaf keys fresh (aA leaf (aM t)).length).2=par at *
   generalize (ka t leaf keys fresh (aA leaf (aM t)).length).1=TZ at *
   have hu:2*leaf<TZ.length:=(by omega);have mn:=zh hu key par rest;have JU:(aK af.cells TZ++rest).length=TZ.length*5+rest.length:=(by rw[List.length_append,Go.AM.cL jb]);rw[←hW] at mn;have HM:W.length=t.length:=(by rw[hW,List.length_set,MF]);generalize aK af.cells TZ++rest=R at qO mn JU;have pX:(0:Int)≤((2*leaf:Nat):Int):=(by omega);have bJ:((2*leaf:Nat):Int)<((t.length:Nat):Int):=(by omega);have PQ:2*leaf<t.length:=(by omega);refine jS (Ai @g11 (Ai @g1 (Ai @g2 (Ai (bE leaf (by omega)) (Ai @pX (Ai @bJ (Ai @aq (Ai @PQ @qO)))))))) fun K hK=>?_;refine⟨by omega,hK _ _ ?_⟩;clear hK K;have uO:=AS.ae s4 O (R.set (2*leaf*5+2) (.v (.int .u64 key)));have fR:s.le (s4.set O (R.set (2*leaf*5+2) (.v (.int .u64 key)))):=AS.aE eM JV _;generalize s4.set O (R.set (2*leaf*5+2) (.v (.int .u64 key)))=s5 at uO fR⊢;refine jS (Ai @g11 (Ai @g1 (Ai @g14 (Ai (bE leaf (by omega)) (Ai @pX (Ai @bJ (Ai @aq (Ai @PQ @uO)))))))) fun K hK=>?_;refine⟨by rw[List.length_set];omega,hK _ _ ?_⟩;clear hK K;have hwk:=Jp (R:=R.set (2*leaf*5+2) (.v (.int .u64 key))) (off:=2*leaf*5+3) (a:=[.sl 1 par.length (par.map ai) .no]) (b:=[al par .any]) rfl (by rw[List.length_set];simp;omega) (.cons AV.bQ .nil);simp only[bn] at hwk;refine nh (AS.Jq hwk) ?_;rw[mn];have vO:=AS.ae s5 O (aK af.cells W++rest);have ew:s.le (s5.set O (aK af.cells W++rest)):=AS.aE fR JV _;generalize s5.set O (aK af.cells W++rest)=s6 at vO ew⊢;refine jB @g11 ?_;refine jI ?_;exact jW ⟨O,cap,rest,by rw[HM],vO,by rw[HM];exact gu,JV,ew⟩
theorem wN(dO:Γ 0=ef Sha.H0)(gg:Γ 1=Sha.K.map wV)(t:List af)(ht:dE t)(FD:t.length≤2^30)(hr:bd t)(leaf:Nat)(hm:cy t leaf)
  (key:Nat) (keys:List Nat) (hk:keys.length=(aA leaf (aM t)).length) (hkw:∀k∈keys,k<2^64) (fresh:List Int) (hf:fresh.length≤2^40) (s:AS):
  aj prog Γ 59 [aW t,.v (.int .i64 leaf),.v (.int .u64 key),tv keys,aF fresh .any] s (fun r s'=>r=aW (kc t leaf key keys fresh)∧s'=s):=by
 refine aj.forget (aj.settle (vg dO gg t ht FD hr leaf hm key keys hk hkw fresh hf s) ?_ (R:=fun r s'=>r=aW (kc t leaf key keys fresh)∧s.le s')) fun r s' ⟨h1,h2⟩=>⟨s,h2,h1,rfl⟩;intro r s' h;obtain⟨s2,h1,h2⟩:=zg.settle (Γ:=Γ) h;exact⟨_,_,h1,rfl,h2⟩
def mW(t:List af)(leaf:Int)(p:cS)(fresh:List Int):List af×Int:=
 if iZ t leaf≠0 then([],iZ t leaf)
 else if p.steps.length≠(aA leaf.toNat (aM t)).length∨fO p.key=false then([],45)
 else if ja t leaf.toNat fresh p.steps=false then([],45)
 else
  let out:=kc t leaf.toNat p.key (p.steps.map (·.key)) fresh
  if(nd out (2*leaf.toNat)).parent=p.parent then(out,0) else([],45)
theorem uR(dO:Γ 0=ef Sha.H0)(gg:Γ 1=Sha.K.map wV)(t:List af)(ht:dE t)(FD:t.length≤2^30)(leaf:Int)
  (p:cS) (hp:p.steps.length≤2^40) (Yh:∀q∈p.steps,q.key<2^64) (fresh:List Int) (hf:fresh.length≤2^40) (s:AS):
  aj prog Γ 17 [aW t,.v (.int .i64 leaf),.agg p.cells,aF fresh .any] s (fun r s'=>r=.eo [aW (mW t leaf p fresh).1,.v (.int .i64 (mW t leaf p fresh).2)]∧s'=s):=by
 refine aa func17 rfl ntmps17 results17 (by simp) ?_;have Eu:=fun s=>yQ (Γ:=Γ) t ht leaf s;have dL:=fun s=>kF (Γ:=Γ) t ht.1 s;have NA:=fun n s=>nw (Γ:=Γ) n s;obtain⟨A,hA⟩:∃A,A=mW t leaf p fresh:=⟨_,rfl⟩;rw[←hA];have pA:(AV.v (.slice none 0 0)).aB (aW []):=AV.aN;obtain⟨py,JZ,iL⟩:=p;unfold cS.cells;unfold aW at Eu dL⊢;unfold aF;simp only at hp;have tp:=fun i(h:i<iL.length)=>mV (c:=cb.cells) (k:=2) (fun _=>rfl) h;generalize hY:aK cb.cells iL=Y at *
 generalize Ud:aK af.cells t=X at *
 unfold al;refine aU 6 (by decide) ?_;intro K hK;refine jM ?_;intro o1 h1;refine hK _ _ o1 _ rfl h1 ?_;clear hK K h1;refine jK (Eu _) ?_;rintro s1 rfl;refine wK fun K hK=>?_;by_cases he:iZ t leaf=0
 ·have e0:(iZ t leaf != 0)=false:=(by simp[he]);refine jB @e0 ?_;refine jF ?_;refine ab ?_;refine hK _ _ ?_;clear hK K;obtain⟨hr,hm⟩:=ln.1 he;obtain⟨lf,rfl⟩:=Int.eq_ofNat_of_zero_le hm.1;obtain⟨cu,me⟩:Fit (aM t)∧t.length=2*aM t-1:=by
   rcases bU (t:=t) with h|h
   ·exact absurd h hr.1
   ·exact h
  have pR:=cu.le;have gJ:lf<aM t:=by
   have:=hm.2.1;omega
  have AF:=fw cu gJ;have j0:=fun s=>kv (Γ:=Γ) lf (aM t) cu gJ s;have LB:(aV (aA lf (aM t))).length=(aA lf (aM t)).length:=bz _;unfold aF at j0;generalize aV (aA lf (aM t))=PI at *
  unfold mW at hA;rw[if_neg (by rw[he];simp)] at hA;simp only[Int.toNat_natCast] at hA;refine jK (dL _) ?_;rintro s3 rfl;have fQ:A=([],45)→∀(E:Env)(s5:AS),s3.le s5→E 8=.v (.slice none 0 0)→E 9=.v (.int .i64 45)→bt prog (#[ResultVar.tmp 8,ResultVar.tmp 9]:Array ResultVar).toList (fun r s'=>r=.eo [.sl 5 A.1.length (aK af.cells A.1) .any,.v (.int .i64 A.2)]∧s'=s3) E s5:=by
   intro hA' E s5 hle f8 f9;rw[hA'];simp only[bt,bD,c7,f8,f9];exact⟨_,_,AV.cB pA (AV.aB.refl _),hle,rfl,rfl⟩
  refine wK fun K hK=>?_;refine ba T.mixed [5,11] (by kernel_rfl) ?_;intro K hK;refine jM ?_;refine ad (j0 _) ?_;rintro r s4 ⟨rfl,rfl⟩;by_cases hl:iL.length=(aA lf (aM t)).length
  ·have e1:((iL.length:Int) != (PI.length:Int))=false:=(by rw[LB,hl];simp);refine jN @e1 ?_;refine ad (NA py _) ?_;rintro r s5 ⟨rfl,rfl⟩;obtain⟨q,hq⟩:∃q,q=fO py:=⟨_,rfl⟩;have I8:(decide (2≤(py:Int))&&decide ((py:Int)≤2305843009213693949))=q:=hq.symm;rw[I8];cases q with
   |false=>
    rw[if_pos (.inr hq.symm)] at hA;refine jR hK ?_;clear hK K;refine jE ?_;refine jA ?_;refine a8 ?_;try simp only[az,ar]
    exact fQ hA _ _ (AS.le.refl _) rfl rfl
   |true=>
    rw[if_neg (by rw[←hq];simp[hl])] at hA;refine jR hK ?_;clear hK K;refine jF ?_;refine ab ?_;refine hK _ _ ?_;clear hK K;have MI:∀i,(h:i<iL.length)→p7 t lf fresh iL[i] i=false→A=([],45):=by
     intro i h hb;rw[hA,if_pos];unfold ja;rw[List.all_eq_false];exact⟨i,by simpa using h,by simp[List.getD,h,hb]⟩
    have Hb:(∀i,(h:i<iL.length)→p7 t lf fresh iL[i] i=true)→ja t lf fresh iL=true:=by
     intro h;unfold ja;rw[List.all_eq_true];intro i hi;have aY:i<iL.length:=(by simpa using hi);simp[List.getD,aY,h i aY]
    obtain⟨kl,qY⟩:∃kl,kl=iL.map (·.key):=⟨_,rfl⟩;have Tu:kl.length=iL.length:=(by rw[qY,List.length_map]);have xcX:∀k∈kl,k<2^64:=by
     intro k hk;rw[qY] at hk;obtain⟨q,hq,rfl⟩:=List.mem_map.1 hk;exact Yh q hq
    have Tv:∀i,(h:i<iL.length)→(kl.take (i+1)).map eh=(kl.take i).map eh++[.v (.int .u64 (iL[i].key:Nat))]:=by
     intro i h;rw[List.take_succ_eq_append_getElem (by omega),List.map_append];simp[qY,eh]
    rw[←qY] at hA;have FH:s5.le s5:=AS.le.refl _;refine jA ?_;refine wK fun K hK=>?_;refine jA ?_;refine ah ?_;refine aD (fun E s'=>∃(i:Nat)(x:AV),i≤iL.length∧(∀j,(h:j<iL.length)→j<i→p7 t lf fresh iL[j] j=true)∧E 13=.v (.int .i64 i)∧E 0=.sl 5 t.length X .any∧E 1=.v (.int .i64 lf)∧E 3=.sl 1 fresh.length (fresh.map aI) .any∧
      E 6=.dr [.v (.int .u64 py),.sl 1 JZ.length (JZ.map ai) .any,.sl 2 iL.length Y .any]∧E 11=.v (.int .i64 (aM t))∧E 12=x∧cP 1 s5 s' x i ((kl.take i).map eh)∧s5.le s')
     (fun E _=>match E 13 with |.v (.int _ i)=>iL.length-i.toNat|_=>0) ?_ ?_
    ·exact⟨0,bL,Nat.zero_le _,fun j _ h=>absurd h (Nat.not_lt_zero _),rfl,rfl,rfl,rfl,rfl,rfl,rfl,cP.nil _ _ _,FH⟩
    ·rintro E1 s6 ⟨i,x,hi,Es,PS,f0,f1,f3,f6,f11,f12,hx,ew⟩ -
     by_cases aY:i<iL.length
     ·have bJ:((i:Nat):Int)<((iL.length:Nat):Int):=(by omega);have cl:(0:Int)≤((i:Nat):Int):=(by omega);have cx:=tp i aY;have Of:=MI i aY;have dM:=Tv i aY;refine wK fun K2 aX=>?_;refine jB (Ai @PS (Ai @f6 (decide_eq_true bJ))) ?_;refine jE ?_;refine ab ?_;refine aX _ _ ?_;clear aX K2;refine wK fun K3 br=>?_;refine ah ?_;generalize hQe:iL[i]=Q at *
      obtain⟨qk,qs⟩:=Q;unfold cb.cells at cx;have zi:p7 t lf fresh ⟨qk,qs⟩ i=(fO qk&&decide (qs.length=(bA t (bZ (nodeAt lf (aM t) i):Nat) fresh).length)):=rfl;have FE:i<(aA lf (aM t)).length:=(by omega);have Hc:=fun s=>oQ (Γ:=Γ) lf (aM t) i cu gJ FE s;have J7:=(nr cu (iB cu gJ FE).1 (iB cu gJ FE).2.1).2.2.2.2;have FY:=fun s=>uc (Γ:=Γ) t hr fresh (by omega) (bZ (nodeAt lf (aM t) i)) (by omega) s;obtain⟨RT,hRT⟩:∃RT,RT=bA t (bZ (nodeAt lf (aM t) i):Nat) fresh:=⟨_,rfl⟩;rw[←hRT] at FY zi;unfold aW aF at FY;rw[Ud] at FY;generalize bZ (nodeAt lf (aM t) i)=SN at *
      obtain⟨q,PA⟩:∃q,q=fO qk:=⟨_,rfl⟩;have I9:(decide (2≤(qk:Int))&&decide ((qk:Int)≤2305843009213693949))=q:=PA.symm;have ZB:=fun s=>NA qk s;rw[I9] at ZB;rw[←PA] at zi;refine wK fun K4 eb=>?_;refine ba T.mixed [6,20,22] (by kernel_rfl) ?_;intro K hK;refine jN (Ai @PS (Ai @f6 (Ai @f0 (Ai @f1 (Ai @f3 (Ai @f11 (Ai @bJ (Ai @cl @cx)))))))) ?_;refine ad (ZB _) ?_;rintro r s7 ⟨rfl,rfl⟩;cases q with
      |false=>
       refine jR hK ?_;clear hK K;refine jE ?_;refine jA ?_;refine a8 ?_;try simp only[az,ar]
       exact fQ (Of (by rw[zi];rfl)) _ _ ew rfl rfl
      |true=>
       refine jN (Ai @PS (Ai @f6 (Ai @f0 (Ai @f1 (Ai @f3 (Ai @f11 (Ai @bJ (Ai @cl @cx)))))))) ?_;refine ad (Hc _) ?_;rintro r s8 ⟨rfl,rfl⟩;refine jN (Ai @f0 @f3) ?_;refine ad (FY _) ?_;rintro r s9 ⟨rfl,rfl⟩;by_cases Bg:qs.length=RT.length
       ·have e1:((qs.length:Int) != (RT.length:Int))=false:=(by rw[Bg];simp);refine jV @e1 hK ?_;clear hK K;refine jF ?_;refine ab ?_;refine eb _ _ ?_;clear eb K4;have bG:∀(E:Env)(s6:AS)(x':AV),E 13=.v (.int .i64 i)→E 0=.sl 5 t.length X .any→E 1=.v (.int .i64 lf)→E 3=.sl 1 fresh.length (fresh.map aI) .any→
          E 6=.dr [.v (.int .u64 py),.sl 1 JZ.length (JZ.map ai) .any,.sl 2 iL.length Y .any]→E 11=.v (.int .i64 (aM t))→E 12=x'→cP 1 s5 s6 x' (i+1) ((kl.take (i+1)).map eh)→s5.le s6→K3 E s6:=by
         intro E s6 x' g13 g0 g1 g3 g6 g11 g12 gx gle;refine br _ _ ?_;clear br K3;refine jD (Ai @g13 (bp i (by omega))) ?_;refine⟨⟨i+1,x',aY,?_,rfl,g0,g1,g3,g6,g11,g12,gx,gle⟩,?_⟩
         ·intro j hj DA;by_cases e:j=i
          ·subst e;rw[hQe,zi,decide_eq_true Bg];rfl
          ·exact Es j hj (by omega)
         ·simp only[PS,aH,↓reduceIte];omega
        clear br;rcases hx with⟨rfl,fg,rK⟩|⟨tk,ek,rfl,oY,pW⟩
        ·refine wE fun K hK=>?_;simp only[↓DN,Qa,Qb,Qc,Qd,Qe,Qf,Qg,Qh,reduceCtorEq,↓reduceIte,Na,Nb,Nc,Nk,Nf,Ng,Nh,Za,Zb,Zc,TT,PS,f6,f12,bL,bJ,cl,cx,List.replicate_succ];intro tk oY;refine hK _ _ (bG _ _ (.sl 1 1 [.v (.int .u64 qk)] (.own tk 0)) PS f0 f1 f3 f6 f11 rfl ?_ ?_)
         ·refine .inr ⟨tk,0,?_,by simp[AS.bw],aZ ew oY⟩;rw[dM,rK];subst fg;rfl
         ·exact AS.bj ew (aZ ew oY) 0
        ·refine wE fun K hK=>?_;simp only[↓DN,Qa,Qb,Qc,Qd,Qe,Qf,Qg,Qh,reduceCtorEq,↓reduceIte,Na,Nb,Nc,Nk,Nf,Ng,Nh,Za,Zb,Zc,TT,PS,f6,f12,oY,bJ,cl,cx,List.replicate_succ];refine⟨by omega,by omega,hK _ _ (bG _ _ (.sl 1 (i+1) ((kl.take i).map eh++[.v (.int .u64 qk)]) (.own tk (ek+1))) PS f0 f1 f3 f6 f11 rfl ?_ ?_)⟩
         ·exact .inr ⟨tk,ek+1,by rw[dM],by simp[AS.bw],pW⟩
         ·exact AS.bj ew pW (ek+1)
       ·have e1:((qs.length:Int) != (RT.length:Int))=true:=by
         rw[bne_iff_ne];omega
        refine jV @e1 hK ?_;clear hK K;refine jE ?_;refine jA ?_;refine a8 ?_;try simp only[az,ar]
        exact fQ (Of (by rw[zi,decide_eq_false Bg];rfl)) _ _ ew rfl rfl
     ·have bJ:¬((i:Nat):Int)<((iL.length:Nat):Int):=(by omega);refine wK fun K2 aX=>?_;refine jB (Ai @PS (Ai @f6 (decide_eq_false bJ))) ?_;refine jF ?_;refine aC ?_;simp only[az,ar,if_true];refine hK _ _ ?_;clear hK aX K2 K;obtain rfl:i=iL.length:=(by omega);rw[if_neg (by rw[Hb fun j h=>Es j h h];simp)] at hA;rw[List.take_of_length_le (by omega)] at hx;obtain⟨out,bu⟩:∃out,out=kc t lf py kl fresh:=⟨_,rfl⟩;rw[←bu] at hA;have Uf:=fun s=>aj.gL (.cons (.refl _) (.cons (.refl _) (.cons (.refl _) (.cons hx.aB (.cons (.refl _) .nil))))) (by
       have:=wN (Γ:=Γ) dO gg t ht FD hr lf hm py kl (by omega) xcX fresh hf s;rw[←bu] at this;unfold tv aW aF at this;rw[Ud,Tu] at this;exact this)
      have NH:out.length=t.length:=(by rw[bu];unfold kc;simp only[List.length_set];exact p8 ..);have hu:2*lf<out.length:=(by omega);have cx:=cK hu;have cl:(0:Int)≤((2*lf:Nat):Int):=(by omega);have bJ:((2*lf:Nat):Int)<((out.length:Nat):Int):=(by omega);generalize hZ:aK af.cells out=Z at *
      obtain⟨N,hN⟩:∃N,N=nd out (2*lf):=⟨_,rfl⟩;rw[←hN] at cx hA;obtain⟨na,nb,nc,jj,nu⟩:=N;unfold af.cells at cx;unfold al at cx;simp only at hA;refine jS (Ai @f0 (Ai @f1 (Ai @f6 (Ai @f12 @f3)))) fun K hK=>?_;refine ad (Uf _) ?_;rintro r s7 ⟨rfl,rfl⟩;refine jR hK ?_;clear hK K;refine wK fun K hK=>?_;by_cases PR:jj=JZ
      ·rw[if_pos PR] at hA;refine ba T.mixed [] (by kernel_rfl) ?_;intro K hK;refine jV (Ai @f1 (Ai @f6 (Ai (bE lf (by omega)) (Ai @cl (Ai @bJ (Ai @aq (Ai @hu (Ai @cx (K9 PR))))))))) hK ?_;clear hK K;refine jF ?_;refine ab ?_;refine hK _ _ ?_;clear hK K;refine jA ?_;refine jI ?_;rw[hA];refine⟨_,_,AV.aB.refl _,ew,?_,rfl⟩;rw[hZ]
      ·rw[if_neg PR] at hA;refine ba T.mixed [] (by kernel_rfl) ?_;intro K hK;refine jV (Ai @f1 (Ai @f6 (Ai (bE lf (by omega)) (Ai @cl (Ai @bJ (Ai @aq (Ai @hu (Ai @cx (KZ PR))))))))) hK ?_;clear hK K;refine jE ?_;refine jA ?_;refine a8 ?_;try simp only[az,ar]
       exact fQ hA _ _ ew rfl rfl
  ·have e1:((iL.length:Int) != (PI.length:Int))=true:=by
    rw[LB,bne_iff_ne];omega
   rw[if_pos (.inl hl)] at hA;refine jV @e1 hK ?_;clear hK K;refine jE ?_;refine jA ?_;refine a8 ?_;try simp only[az,ar]
   exact fQ hA _ _ (AS.le.refl _) rfl rfl
 ·have e0:(iZ t leaf != 0)=true:=(by simp[he]);refine jB @e0 ?_;refine jE ?_;refine jA ?_;refine jI ?_;unfold mW at hA;rw[if_pos he] at hA;rw[hA];exact⟨_,_,AV.cB pA (AV.aB.refl _),AS.le.refl _,rfl,rfl⟩
def filled(n k:Nat)(c:UInt8):List UInt8:=List.replicate k c++List.replicate (n-k) 0
end Go.Proofs.YtbiefppedlodiaaGreatDoor
