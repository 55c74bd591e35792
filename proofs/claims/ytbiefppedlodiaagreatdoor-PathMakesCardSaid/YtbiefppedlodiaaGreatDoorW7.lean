/- Contracts of functions, each walked once; each theorem states its conditions. -/
import Derived.Test.YtbiefppedlodiaaGreatDoorW6
import Derived.Test.YtbiefppedlodiaaGreatDoorW2
import Derived.Test.YtbiefppedlodiaaGreatDoorW4
import Derived.Test.YtbiefppedlodiaaGreatDoorW5
import Derived.Test.YtbiefppedlodiaaGreatDoorW3
import Derived.Test.YtbiefppedlodiaaGreatDoorAMp6
import Derived.Test.YtbiefppedlodiaaGreatDoorAMp7
import Derived.Test.YtbiefppedlodiaaGreatDoorW1
import Derived.Test.YtbiefppedlodiaaGreatDoorAMp5
import Derived.Test.YtbiefppedlodiaaGreatDoorAMp4
open Bool renaming and_eq_true -> au, false_or -> bN, or_false -> cp, or_self -> cC, or_true -> cu
open ByteArray renaming mk -> cA
open Int renaming toNat_natCast -> aB
open List renaming any_cons -> bd, any_nil -> bn, contains_cons -> bz, contains_nil -> bE, drop -> aJ, eq_nil_of_length_eq_zero -> al, getD -> bj, getD_eq_getElem?_getD -> aO, getElem?_eq_getElem -> ag, getElem?_take -> aD, getElem_mem -> ba, length_append -> ai, length_cons -> aY, length_map -> aj, length_nil -> aW, length_set -> b8, map_append -> aF, map_cons -> aC, map_nil -> bF, mem_append -> cl, mem_cons -> bZ, mem_map -> bJ, mem_singleton -> b9, nil_append -> aL, range -> aq, replicate -> ad, replicate_succ -> av, take -> aG, take_of_length_le -> ae, take_succ_eq_append_getElem -> af, toList_toArray -> ah
open Nat renaming le_trans -> cB, reduceBEq -> aK, zero_add -> a7, zero_le -> aA
open Ne renaming symm -> bI
open UInt8 renaming ofNat -> ax
set_option linter.unusedSimpArgs false
set_option linter.unusedVariables false
open Nat renaming reduceLT -> Na, reduceLeDiff -> Nb, reduceEqDiff -> Nc, reduceAdd -> Nk, reduceMul -> Nf, reducePow -> Ng, reduceSub -> Nh, reduceBEq -> Nz
open Int renaming reduceLT -> Za, reduceLE -> Zb, reduceToNat -> Zc
open And renaming intro -> Ai
open Go.AM renaming ashift -> Qa, aconv -> Qb, aindexAddr -> Qc, aindex -> Qd, aslice -> Qe, abuiltin -> Qf, awp_reg_seq -> wS, awp_reg_end -> wE, awp_seq_k -> wK, awp_cond_k -> wC
open Go.AM.AV renaming cells -> Qg, one -> Qh
set_option maxRecDepth 100000
set_option maxHeartbeats 8000000
namespace Go.AM
namespace Aes
def OS(a:UInt8):UInt8:=(a <<< (1:UInt8)) ^^^ ((27:UInt8) &&& ((0:UInt8)-(a >>> (7:UInt8))))
def gm:Nat->UInt8->UInt8->UInt8->UInt8
  |0,o,_,_=>o
  |f+1,o,a,b=>gm f (o ^^^ (a &&& ((0:UInt8)-(b &&& 1)))) (OS a) (b >>> 1)
theorem OT:∀(f:Nat)(o a:UInt8),gm f o a 0=o
  |0,o,a=>rfl
  |f+1,o,a=>by
    have e:o ^^^ (a &&& ((0:UInt8)-((0:UInt8) &&& 1)))=o:=by
      have :(0:UInt8)-((0:UInt8) &&& 1)=0:=dM;rw[this];simp
    rw[gm,e,show(0:UInt8) >>> 1=0 from dM];exact OT f o _
def pw:Nat->UInt8->UInt8->Nat->UInt8
  |0,o,_,_=>o
  |f+1,o,a,n=>pw f (if n%2=1 then gm 8 0 o a else o) (gm 8 0 a a) (n/2)
theorem OU:∀(f:Nat)(o a:UInt8),pw f o a 0=o
  |0,_,_=>rfl
  |f+1,o,a=>by rw[pw];exact OU f o _
def inv(a:UInt8):UInt8:=pw 8 1 a 254
def rot(x:UInt8)(i:Nat):UInt8:=ax (x.toNat*2^i) ||| ax (x.toNat/2^(8-i))
def N3(x:UInt8):Nat->UInt8
  |0=>99 ^^^ x
  |k+1=>N3 x k ^^^ rot x (k+1)
def box(c:UInt8):UInt8:=N3 (inv c) 4
def mulL(a b:Nat):Nat->Nat->Nat
  |0,p=>p
  |f+1,p=>mulL a b f (if b/2^(7-f)%2=1 then p ^^^ (a*2^(7-f)) else p)
def IJ:Nat->Nat->Nat
  |0,p=>p
  |k+1,p=>IJ k (if p/2^(8+k)%2=1 then p ^^^ (283*2^k) else p)
def F0(a b:Nat):Nat:=IJ 7 (mulL a b 8 0)
def xp:Nat->Nat
  |0=>1
  |i+1=>F0 (xp i) 3
def uQ:Nat->List Nat
  |0=>ad 256 0
  |n+1=>(uQ n).set n (xp n)
def zQ:Nat->List Nat
  |0=>ad 256 0
  |n+1=>(zQ n).set (xp n) n
def wx(v:Nat):Nat:=(v*2+v/128)%256
def WO(e l:List Nat)(c:Nat):Nat:=
  let v:=if 0<c then e.getD ((255-l.getD c 0)%255) 0 else 0
  (((((99 ^^^ v) ^^^ wx v) ^^^ wx (wx v)) ^^^ wx (wx (wx v))) ^^^ wx (wx (wx (wx v))))
def tU:List Nat:=[1,3,5,15,17,51,85,255,26,46,114,150,161,248,19,53,95,225,56,72,216,115,149,164,247,2,6,10,30,34,102,170,229,52,92,228,55,89,235,38,106,190,217,112,144,171,230,49,83,245,4,12,20,60,68,204,79,209,104,184,211,110,178,205,76,212,103,169,224,59,77,215,98,166,241,8,24,40,120,136,131,158,185,208,107,189,220,127,129,152,179,206,73,219,118,154,181,196,87,249,16,48,80,240,11,29,39,105,187,214,97,163,254,25,43,125,135,146,173,236,47,113,147,174,233,32,96,160,251,22,58,78,210,109,183,194,93,231,50,86,250,21,63,65,195,94,226,61,71,201,64,192,91,237,44,116,156,191,218,117,159,186,213,100,172,239,42,126,130,157,188,223,122,142,137,128,155,182,193,88,232,35,101,175,234,37,111,177,200,67,197,84,252,31,33,99,165,244,7,9,27,45,119,153,176,203,70,202,69,207,74,222,121,139,134,145,168,227,62,66,198,81,243,14,18,54,90,238,41,123,141,140,143,138,133,148,167,242,13,23,57,75,221,124,132,151,162,253,28,36,108,180,199,82,246,0]
def Bb:List Nat:=[0,0,25,1,50,2,26,198,75,199,27,104,51,238,223,3,100,4,224,14,52,141,129,239,76,113,8,200,248,105,28,193,125,194,29,181,249,185,39,106,77,228,166,114,154,201,9,120,101,47,138,5,33,15,225,36,18,240,130,69,53,147,218,142,150,143,219,189,54,208,206,148,19,92,210,241,64,70,131,56,102,221,253,48,191,6,139,98,179,37,226,152,34,136,145,16,126,110,72,195,163,182,30,66,58,107,40,84,250,133,61,186,43,121,10,21,155,159,94,202,78,212,172,229,243,115,167,87,175,88,168,80,244,234,214,116,79,174,233,213,231,230,173,232,44,215,117,122,235,22,11,245,89,203,95,176,156,169,81,160,127,12,246,111,23,196,73,236,216,67,31,45,164,118,123,183,204,187,62,90,251,96,177,134,59,82,161,108,170,85,41,157,151,178,135,144,97,190,220,252,188,149,207,205,55,63,91,209,83,57,132,60,65,162,109,71,20,42,158,93,86,242,211,171,68,17,146,217,35,32,46,137,180,124,184,38,119,153,227,165,103,74,237,222,197,49,254,24,13,99,140,128,192,247,112,7]
def sb:List UInt8:=[99,124,119,123,242,107,111,197,48,1,103,43,254,215,171,118,202,130,201,125,250,89,71,240,173,212,162,175,156,164,114,192,183,253,147,38,54,63,247,204,52,165,229,241,113,216,49,21,4,199,35,195,24,150,5,154,7,18,128,226,235,39,178,117,9,131,44,26,27,110,90,160,82,59,214,179,41,227,47,132,83,209,0,237,32,252,177,91,106,203,190,57,74,76,88,207,208,239,170,251,67,77,51,133,69,249,2,127,80,60,159,168,81,163,64,143,146,157,56,245,188,182,218,33,16,255,243,210,205,12,19,236,95,151,68,23,196,167,126,61,100,93,25,115,96,129,79,220,34,42,144,136,70,238,184,20,222,94,11,219,224,50,58,10,73,6,36,92,194,211,172,98,145,149,228,121,231,200,55,109,141,213,78,169,108,86,244,234,101,122,174,8,186,120,37,46,28,166,180,198,232,221,116,31,75,189,139,138,112,62,181,102,72,3,246,14,97,53,87,185,134,193,29,158,225,248,152,17,105,217,142,148,155,30,135,233,206,85,40,223,140,161,137,13,191,230,66,104,65,153,45,15,176,84,187,22]
def S(x:UInt8):UInt8:=sb.getD x.toNat 0
theorem oU:sb.length=256:=by decide+kernel
theorem xaf:∀i,i<256->box (ax i)=sb.getD i 0:=by decide+kernel
theorem TW:∀x,x<256->F0 x 3<256:=by decide+kernel
theorem Yr:∀n,xp n<256
  |0=>dM
  |n+1=>TW _ (Yr n)
theorem TX:∀n,n<255->xp n=tU.getD n 0:=by
  have h0:xp 0=tU.getD 0 0:=dM;have hs:∀n,n<254->F0 (tU.getD n 0) 3=tU.getD (n+1) 0:=(by decide+kernel);intro n;induction n with
  |zero=>intro _;exact h0
  |succ n ih=>intro h;rw[xp,ih oM];exact hs n oM
def TY:Nat->List Nat
  |0=>ad 256 0
  |n+1=>(TY n).set n (tU.getD n 0)
def T3:Nat->List Nat
  |0=>ad 256 0
  |n+1=>(T3 n).set (tU.getD n 0) n
theorem OV:∀n,n<=255->uQ n=TY n
  |0,_=>rfl
  |n+1,h=>by rw[uQ,TY,OV n oM,TX n oM]
theorem OW:∀n,n<=255->zQ n=T3 n
  |0,_=>rfl
  |n+1,h=>by rw[zQ,T3,OW n oM,TX n oM]
theorem xdh:uQ 255=tU:=by rw[OV 255 oM];decide+kernel
theorem xdi:zQ 255=Bb:=by rw[OW 255 oM];decide+kernel
theorem xag:∀c,c<256->Bb.getD c 0<=254:=by decide+kernel
theorem WQ:∀c,c<256->WO tU Bb c=(sb.getD c 0).toNat:=by decide+kernel
theorem xdj:∀x,x<256->F0 x 1=x:=by decide+kernel
theorem xdk:∀x,x<256->F0 x 2=(OS (ax x)).toNat:=by decide+kernel
theorem xdl:∀x,x<256->F0 x 3=(OS (ax x) ^^^ ax x).toNat:=by decide+kernel
def GY:Nat->UInt8
  |0=>1
  |r+1=>OS (GY r)
def nx(k:List UInt8)(p:UInt8):List UInt8:=
  match k with
  |[k0,k1,k2,k3,k4,k5,k6,k7,k8,k9,FE,L0,D2,Jm,KT,EV]=>
    let a0:=(k0 ^^^ S Jm) ^^^ p
    let a1:=k1 ^^^ S KT
    let a2:=k2 ^^^ S EV
    let a3:=k3 ^^^ S D2
    let b0:=k4 ^^^ a0
    let b1:=k5 ^^^ a1
    let b2:=k6 ^^^ a2
    let b3:=k7 ^^^ a3
    let c0:=k8 ^^^ b0
    let c1:=k9 ^^^ b1
    let c2:=FE ^^^ b2
    let c3:=L0 ^^^ b3
    [a0,a1,a2,a3,b0,b1,b2,b3,c0,c1,c2,c3,D2 ^^^ c0,Jm ^^^ c1,KT ^^^ c2,EV ^^^ c3]
  |_=>[]
def kr(key:List UInt8):Nat->List UInt8
  |0=>key
  |r+1=>nx (kr key r) (GY r)
theorem IK{α:Type}{l:List α}(h:l.length=16):∃k0 k1 k2 k3 k4 k5 k6 k7 k8 k9 FE L0 D2 Jm KT EV,l=[k0,k1,k2,k3,k4,k5,k6,k7,k8,k9,FE,L0,D2,Jm,KT,EV]:=by
  match l,h with
  |[k0,k1,k2,k3,k4,k5,k6,k7,k8,k9,FE,L0,D2,Jm,KT,EV],_=>exact⟨k0,k1,k2,k3,k4,k5,k6,k7,k8,k9,FE,L0,D2,Jm,KT,EV,rfl⟩
theorem xah{k:List UInt8}(h:k.length=16)(p:UInt8):(nx k p).length=16:=by
  obtain⟨k0,k1,k2,k3,k4,k5,k6,k7,k8,k9,FE,L0,D2,Jm,KT,EV,rfl⟩:=IK h;rfl
theorem x9{key:List UInt8}(h:key.length=16):∀r,(kr key r).length=16
  |0=>h
  |r+1=>xah (x9 h r) _
theorem xai{k:List UInt8}(h:k.length=16)(p:UInt8)(j:Nat)(hj:j<4):(nx k p).getD j 0=if j=0 then(k.getD j 0 ^^^ S (k.getD (12+(j+1)%4) 0)) ^^^ p else k.getD j 0 ^^^ S (k.getD (12+(j+1)%4) 0):=by
  obtain⟨k0,k1,k2,k3,k4,k5,k6,k7,k8,k9,FE,L0,D2,Jm,KT,EV,rfl⟩:=IK h;rcases(show j=0∨j=1∨j=2∨j=3 by omega) with rfl|rfl|rfl|rfl<;>rfl
theorem WR{k:List UInt8}(h:k.length=16)(p:UInt8)(j:Nat)(h4:4<=j)(hj:j<16):(nx k p).getD j 0=k.getD j 0 ^^^ (nx k p).getD (j-4) 0:=by
  obtain⟨k0,k1,k2,k3,k4,k5,k6,k7,k8,k9,FE,L0,D2,Jm,KT,EV,rfl⟩:=IK h;rcases(show j=4∨j=5∨j=6∨j=7∨j=8∨j=9∨j=10∨j=11∨j=12∨j=13∨j=14∨j=15 by omega) with rfl|rfl|rfl|rfl|rfl|rfl|rfl|rfl|rfl|rfl|rfl|rfl<;>rfl
def ak(key:List UInt8)(n:Nat):UInt8:=(kr key (n/16)).getD (n%16) 0
theorem T4{key:List UInt8}(h:key.length=16)(r j:Nat)(hj:j<4):ak key (16*(r+1)+j)=if j=0 then(ak key (16*r+j) ^^^ S (ak key (16*r+(12+(j+1)%4)))) ^^^ GY r else ak key (16*r+j) ^^^ S (ak key (16*r+(12+(j+1)%4))):=by
  have e1:(16*(r+1)+j)/16=r+1:=oM;have e2:(16*(r+1)+j)%16=j:=oM;have e3:(16*r+j)/16=r:=oM;have e4:(16*r+j)%16=j:=oM;have e5:(16*r+(12+(j+1)%4))/16=r:=oM;have e6:(16*r+(12+(j+1)%4))%16=12+(j+1)%4:=oM;simp only[ak,e1,e2,e3,e4,e5,e6];exact xai (x9 h r) (GY r) j hj
theorem OX{key:List UInt8}(h:key.length=16)(r j:Nat)(h4:4<=j)(hj:j<16):ak key (16*(r+1)+j)=ak key (16*r+j) ^^^ ak key (16*(r+1)+(j-4)):=by
  have e1:(16*(r+1)+j)/16=r+1:=oM;have e2:(16*(r+1)+j)%16=j:=oM;have e3:(16*r+j)/16=r:=oM;have e4:(16*r+j)%16=j:=oM;have e5:(16*(r+1)+(j-4))/16=r+1:=oM;have e6:(16*(r+1)+(j-4))%16=j-4:=oM;simp only[ak,e1,e2,e3,e4,e5,e6];exact WR (x9 h r) (GY r) j h4 hj
theorem T5{key:List UInt8}(n:Nat)(hn:n<16):ak key n=key.getD n 0:=by
  rw[ak,Nat.div_eq_of_lt hn,Nat.mod_eq_of_lt hn];rfl
def sh(b:List UInt8)(n:Nat):UInt8:=S (b.getD (4*((n/4+n%4)%4)+n%4) 0)
def mx(c:Nat->UInt8)(i:Nat):UInt8:=(((OS (c i) ^^^ OS (c ((i+1)%4))) ^^^ c ((i+1)%4)) ^^^ c ((i+2)%4)) ^^^ c ((i+3)%4)
def OY(b:List UInt8)(last:Bool):List UInt8:=(aq 16).map fun n=>if last then sh b n else mx (fun i=>sh b (4*(n/4)+i)) (n%4)
def add(b k:List UInt8):List UInt8:=(aq 16).map fun n=>b.getD n 0 ^^^ k.getD n 0
def state(key b:List UInt8):Nat->List UInt8
  |0=>add b (kr key 0)
  |r+1=>add (OY (state key b r) (r+1==10)) (kr key (r+1))
def block(key b:List UInt8):List UInt8:=state key b 10
theorem IL(b:List UInt8)(l:Bool):(OY b l).length=16:=by simp[OY]
theorem IM(b k:List UInt8):(add b k).length=16:=by simp[add]
theorem oV(key b:List UInt8):∀r,(state key b r).length=16
  |0=>IM _ _
  |r+1=>IM _ _
theorem vZ(key b:List UInt8):(block key b).length=16:=oV key b 10
theorem qF{α:Type}(f:Nat->α)(N n:Nat)(d:α)(h:n<N):((aq N).map f).getD n d=f n:=by
  simp[aO,h]
theorem IP(b:List UInt8)(l:Bool)(n:Nat)(h:n<16):(OY b l).getD n 0=if l then sh b n else mx (fun i=>sh b (4*(n/4)+i)) (n%4):=qF _ _ _ _ h
theorem add_get(b k:List UInt8)(n:Nat)(h:n<16):(add b k).getD n 0=b.getD n 0 ^^^ k.getD n 0:=qF _ _ _ _ h
def first(dt:List UInt8):Nat:=nB (dt.drop 12)
def ET(dt:List UInt8)(i:Nat):List UInt8:=dt.take 12++be 4 ((first dt+i)%4294967296)
def Dz(key dt:List UInt8)(p:Nat):UInt8:=(block (key.take 16) (ET dt (p/16))).getD (p%16) 0
def mask(key dt text:List UInt8):List UInt8:=(aq text.length).map fun p=>text.getD p 0 ^^^ Dz key dt p
theorem mX(key dt text:List UInt8):(mask key dt text).length=text.length:=by simp[mask]
theorem yV(key dt text:List UInt8)(p:Nat)(h:p<text.length):(mask key dt text).getD p 0=text.getD p 0 ^^^ Dz key dt p:=qF _ _ _ _ h
theorem P4(key dt text:List UInt8):mask key dt (mask key dt text)=text:=by
  apply List.ext_getElem
  · simp[mask]
  · intro p h1 h2;have hp:p<text.length:=h2;have e:=yV key dt (mask key dt text) p (by rw[mX];exact hp);rw[yV key dt text p hp,UInt8.xor_assoc,UInt8.xor_self,UInt8.xor_zero] at e;rw[aO,ag h1,aO,ag h2] at e;simpa using e
def tag(key dt beside masked:List UInt8):List UInt8:=(Mac.tag (key.drop 16) (be 4 beside.length++(beside++(dt++masked)))).take 16
theorem pb(key dt beside masked:List UInt8):(tag key dt beside masked).length=16:=by simp[tag,Mac.pb]
def iF(key dt beside text:List UInt8):List UInt8:=mask key dt text++tag key dt beside (mask key dt text)
end Aes
namespace Vault
def AJ:List UInt8:=[110,111,110,99,101]
def ctx(g:List UInt8)(e:Nat):List UInt8:=be 1 g.length++g++be 8 e
def k0:List UInt8:=[169,244,63,67,64,52,17,249,117,86,100,57,122,167,125,1,230,91,103,131,115,144,199,68,248,159,166,218,250,248,1,114,135,15,162,208,108,252,211,18,83,148,90,178,179,251,67,14]
def n3:List UInt8:=[8,190,219,198,217,21,206,227,25,6,89,27,186,224,186,54]
def n4:List UInt8:=[184,102,163,253,77,158,128,5,108,65,104,250,253,115,180,138]
def m3:List UInt8:=[247,169,26,226,24,129,224,169,173,123,5,148,71,154,82,74,108,148,179,118,179,215,27,211,244,97,172,107,233,136,76,169]
def t3:List UInt8:=[8,206,240,108,85,27,1,138,119,108,80,208,57,159,143,149]
end Vault
open Go
def xhm(l:List (List UInt8)):AV:=.sl 1 l.length (l.map fun b=>dm b .any) .any
def T6(l:List (List UInt8)):Prop:=l.length<=12∧∀b∈l,b.length<=4000
instance(l:List (List UInt8)):Decidable (T6 l):=by unfold T6;infer_instance
structure xdm where
  kind:Int
  leaf:Int
  name:List UInt8
  key:Nat
def xdm.cells(a:xdm):List AV:=[.v (.int .i64 a.kind),.v (.int .i64 a.leaf),dm a.name .any,.v (.int .u64 a.key)]
def xhn(t T:List cH)(f:Int)(k:Nat):Prop:=iD T∧(f=0->eJ T∨(T=t∧k=3))
structure OZ where
  group:List UInt8
  nT:Int
  tree:List cH
  WS:List UInt8
  inter:List UInt8
  deriving DecidableEq
def OZ.nr:OZ:=⟨[],0,[],[],[]⟩
def OZ.cells(s:OZ):List AV:=[dm s.group .any,.v (.int .i64 s.nT),eA s.tree,dm s.WS .any,dm s.inter .any]
def OZ.right(s:OZ):Prop:=(1<=s.group.length∧s.group.length<=16)∧0<=s.nT∧s.nT<=1048576∧eJ s.tree∧s.WS.length=32∧s.inter.length=32
instance(s:OZ):Decidable s.right:=by unfold OZ.right;infer_instance
def OZ.wf(s:OZ):Prop:=iD s.tree
def OZ.text(s:OZ):List UInt8:=WJ 1 s.group++(be 8 s.nT.toNat++(Tp s.tree++(WJ 1 s.WS++(WJ 1 s.inter++[]))))
abbrev xe5:Ty:=.slice 5 (.struct (.cons Hy (.cons I7 (.cons (.int .u64) (.cons I7 (.cons (.slice 1 Hy) .nil))))))
end Go.AM
namespace Go.Proofs.YtbiefppedlodiaaGreatDoor
open Go Go.AM Go.Proofs Tryz
variable{Γ:Nat->List AV}
theorem WT(l:List UInt8)(i:Nat)(h:i<l.length):(cA l.toArray)[i]? =some l[i]:=by
  rw[getElem?_pos (cA l.toArray) i (by simpa[gK] using h)];rfl
theorem qZ{a b:Int}(h:a=b):(a==b)=true:=by simpa using h
theorem pt{a b:Int}(h:a≠b):(a==b)=false:=by simpa using h
theorem VG{a:Nat}(h:a=0):((a:Int)==0)=true:=by subst h;rfl
theorem Ou{a:Nat}(h:a≠0):((a:Int)==0)=false:=by simpa using h
theorem xbP{a k:Nat}(h:a=k):((a:Int)==(k:Int))=true:=by subst h;simp
theorem neI{a b:Int}(h:a≠b):(a != b)=true:=by simpa using h
theorem eqI{a b:Int}(h:a=b):(a != b)=false:=by simpa using h
theorem eK(i:Nat)(h:i<9223372036854775807):iY .i64 (i:Int) 1=((i+1:Nat):Int):=by
  rw[kh oM];rfl
def gV.fits(c:gV):Prop:=c.props.length<=9223372036854775807∧c.path.steps.length<=9223372036854775807∧∀x∈c.path.steps,x.iJ.length<=9223372036854775807
end Go.Proofs.YtbiefppedlodiaaGreatDoor
namespace Go.AM
open Go
def xk4(s0 s:AS)(x:AV)(l:List Int):Prop:=x=.sl 1 l.length (l.map ed) .new∨∃t e,x=.sl 1 l.length (l.map ed) (.own t e)∧s.own t=some e∧s0.own t=none
end Go.AM
namespace Go.Proofs.YtbiefppedlodiaaGreatDoor
open Go Go.AM Go.Proofs Tryz
variable{Γ:Nat->List AV}
def T7(S:OZ):Prop:=(S.tree.length<=31∧S.group.length<=40∧S.WS.length<=60∧S.inter.length<=60)∧∀n∈S.tree,AU n
instance(S:OZ):Decidable (T7 S):=by unfold T7;infer_instance
def gV.octets(c:gV):List UInt8:=if c.right then c.text else[]
def T8:List UInt8:=ad 32 0
def c0:gV:=⟨[103],0,0,[],false,⟨0,[],[]⟩,T8,T8⟩
theorem Bz{a b:Nat}(h:a≠b):((a:Int) != (b:Int))=true:=by simp only[bne_iff_ne,ne_eq];omega
theorem ug{a b:Nat}(h:a=b):((a:Int) != (b:Int))=false:=by subst h;simp
theorem MT{a b:List UInt8}(h:a≠b):(a != b)=true∧(!a==b)=true:=⟨by simpa using h,by simpa using h⟩
theorem HT{a b:List UInt8}(h:a=b):(a != b)=false∧(!a==b)=false:=by subst h;simp
theorem O0{α:Type}{a b:List α}{i:Nat}(ha:i<a.length)(hb:i<b.length)(h:a.take i=b.take i)(he:a[i]=b[i]):a.take (i+1)=b.take (i+1):=by
 rw[af ha,af hb,h,he]
theorem zR{α:Type}{a b:List α}{i:Nat}(hl:a.length=b.length)(ha:¬i<a.length)(h:a.take i=b.take i):a=b:=by
 rwa [ae oM,ae oM] at h
theorem Ij(a b:ia)(ha:a.wf)(s:AS):aI prog Γ 12 [.agg a.cells,.agg b.cells] s (.v (.bool (decide (a=b)))):=by
 refine xH func12 ntmps12 results12 ?_;obtain⟨k1,p1,l1⟩:=a;obtain⟨k2,p2,l2⟩:=b;obtain⟨_,hw,hl⟩:=ha;simp only at hw hl;unfold maxLen at hl;unfold ia.cells;simp only;have Tw:=fun i(h:i<l1.length)=>nv (c:=ft.cells) (k:=2) (fun _=>rfl) h;have Tx:=fun i(h:i<l2.length)=>nv (c:=ft.cells) (k:=2) (fun _=>rfl) h;generalize eb ft.cells l1=X1 at *
 generalize eb ft.cells l2=X2 at *
 refine nQ 2 3 dM dM dM ?_;intro K hK;refine jM ?_;intro o1 h1 o2 h2;refine hK _ _ o1 o2 _ _ rfl rfl h1 (by rw[AS.pj];exact h2) ?_;clear hK K h1 h2;refine wK fun K hK=>?_;by_cases hh:k1=k2∧p1=p2∧l1.length=l2.length
 ·obtain⟨rfl,rfl,hll⟩:=hh;refine jB (Ai (ug (show k1=k1 from rfl)) (Ai (HT (show p1=p1 from rfl)) (ug hll))) ?_;refine gW ?_;refine hK _ _ ?_;clear hK K;refine Jc fun K hK=>?_;refine dU (fun E s1=>∃i:Nat,i<=l1.length∧E 5=.v (.int .i64 i)∧E 2=.ij [.v (.int .u64 k1),.sl 1 p1.length (p1.map cU) .any,.sl 2 l1.length X1 .any]∧E 3=.ij [.v (.int .u64 k1),.sl 1 p1.length (p1.map cU) .any,.sl 2 l2.length X2 .any]∧l1.take i=l2.take i∧s1=s)
   (fun E _=>match E 5 with |.v (.int _ i)=>l1.length-i.toNat|_=>0) ?_ ?_
  ·exact⟨0,aA _,rfl,rfl,rfl,sM,rfl⟩
  ·rintro E1 s1 ⟨i,hi,g5,g2,g3,fG,rfl⟩ -
   refine wK fun K2 eH=>?_;by_cases et:i<l1.length
   ·refine jB (Ai @g5 (Ai @g2 (Ai @dB (dT et)))) ?_;refine ue ?_;refine eH _ _ ?_;clear eH K2;refine nF fun K3 eX=>?_;have kR:i<l2.length:=oM;have Lb:=Tw i et;have zC:=Tx i kR;have gC:(0:Int)<=(i:Int):=oM;have Eu:l1[i]=l2[i]->l1.take (i+1)=l2.take (i+1):=O0 et kR fG;have uS:l1[i]≠l2[i]->decide ((⟨k1,p1,l1⟩:ia)=⟨k1,p1,l2⟩)=false:=fun h=>dF fun q=>h (by simp only[ia.mk.injEq,true_and] at q;subst q;rfl);have hsw:=hw l1[i] (ba et);generalize l1[i]=y1 at *
    generalize l2[i]=y2 at *
    obtain⟨f1,t1⟩:=y1;obtain⟨f2,t2⟩:=y2;obtain⟨_,_,nD⟩:=hsw;simp only at nD;unfold maxLen at nD;unfold ft.cells at Lb zC;simp only at Lb zC;have xho:=fun i(h:i<t1.length)=>nv (c:=gg.cells) (k:=2) (fun _=>rfl) h;have xhp:=fun i(h:i<t2.length)=>nv (c:=gg.cells) (k:=2) (fun _=>rfl) h;generalize eb gg.cells t1=T1 at *
    generalize eb gg.cells t2=T2 at *
    refine HL T.mixed 6 7 [10,11,12,13] [] [] [10,11] kM dM dM dM ?_;intro K hK;simp only[↓Cx,↓yJ,↓vU,nC,lO,tw,rU,rV,eZ,DX,aK,ah,aC,bF,ef,↓DN,Qa,Qb,Qc,Qd,Qe,Qf,Qg,Qh,seval,TT,g5,g2,g3,dB,et,kR,gC,Lb,zC];intro o1 yp o2 tj;have gP:o1≠o2:=(by rintro rfl;simp at tj);have Aa:=gP.symm;simp only[gP,Aa,if_true,if_false,↓reduceIte,List.set_cons_zero,List.set_cons_succ,aY,aW,Nat.reduceAdd,Nat.le_refl,true_and];rw[J1 gP];refine hK _ _ o1 o2 _ _ rfl rfl yp (by rw[AS.cO _ Aa];simpa[Aa] using tj) ?_;clear hK K yp tj gP Aa;refine wK fun K hK=>?_;by_cases hh2:f1=f2∧t1.length=t2.length
    ·obtain⟨rfl,htt⟩:=hh2;refine jB (Ai (ug (show f1=f1 from rfl)) (ug htt)) ?_;refine gW ?_;refine hK _ _ ?_;clear hK K;refine xKl ?_;refine dU (fun E s2=>∃j:Nat,j<=t1.length∧E 8=.v (.int .i64 j)∧E 6=.ij [.v (.int .u64 f1),.sl 2 t1.length T1 .any]∧E 7=.ij [.v (.int .u64 f1),.sl 2 t2.length T2 .any]∧t1.take j=t2.take j∧E 5=.v (.int .i64 i)∧E 2=.ij [.v (.int .u64 k1),.sl 1 p1.length (p1.map cU) .any,.sl 2 l1.length X1 .any]∧E 3=.ij [.v (.int .u64 k1),.sl 1 p1.length (p1.map cU) .any,.sl 2 l2.length X2 .any]∧s2=s1)
      (fun E _=>match E 8 with |.v (.int _ i)=>t1.length-i.toNat|_=>0) ?_ ?_
     ·exact⟨0,aA _,rfl,rfl,rfl,sM,g5,g2,g3,rfl⟩
     ·have G5:=g5;clear g5 g2 g3;rintro E2 s2 ⟨j,hj,g8,g6,g7,Ys,g5,g2,g3,rfl⟩ -
      refine wK fun K2 eH=>?_;by_cases nH:j<t1.length
      ·refine jB (Ai @g8 (Ai @g6 (Ai @dB (dT nH)))) ?_;refine ue ?_;refine eH _ _ ?_;clear eH K2;refine nF fun K4 jm=>?_;have hj2:j<t2.length:=oM;have T9:=xho j nH;have Ua:=xhp j hj2;have Wf:(0:Int)<=(j:Int):=oM;have xdo:t1[j]=t2[j]->t1.take (j+1)=t2.take (j+1):=O0 nH hj2 Ys;have xdp:t1[j]≠t2[j]->decide ((⟨k1,p1,l1⟩:ia)=⟨k1,p1,l2⟩)=false:=fun h=>uS fun q=>h (by simp only[ft.mk.injEq,true_and] at q;subst q;rfl);generalize t1[j]=z1 at *
       generalize t2[j]=z2 at *
       obtain⟨u1,v1⟩:=z1;obtain⟨u2,v2⟩:=z2;unfold gg.cells at T9 Ua;simp only at T9 Ua;by_cases hu:u1=u2
       ·subst hu;by_cases hv:v1=v2
        ·subst hv;refine eB T.mixed [] kM ?_;intro K hK;simp only[↓fM,↓fi,eZ,↓Cx,↓yJ,↓vU,nC,lO,tw,rU,rV,eZ,DX,aK,ah,aC,bF,ef,DX,aK,↓DN,Qa,Qb,Qc,Qd,Qe,Qf,Qg,Qh,seval,TT,g8,g6,g7,dB,nH,hj2,Wf,T9,Ua,ug (show u1=u1 from rfl),HT (show v1=v1 from rfl)];refine hK _ _ ?_;clear hK K;refine gW ?_;simp only[dn,dJ,if_true,if_false];refine jm _ _<|jD (Ai @g8 (eK j oM)) ?_;refine⟨⟨j+1,oM,rfl,g6,g7,xdo rfl,g5,g2,g3,rfl⟩,?_⟩;simp only[g8,dY,↓reduceIte];omega
        ·refine eB T.mixed [] kM ?_;intro K hK;simp only[↓fM,↓fi,eZ,↓Cx,↓yJ,↓vU,nC,lO,tw,rU,rV,eZ,DX,aK,ah,aC,bF,ef,DX,aK,↓DN,Qa,Qb,Qc,Qd,Qe,Qf,Qg,Qh,seval,TT,g8,g6,g7,dB,nH,hj2,Wf,T9,Ua,ug (show u1=u1 from rfl),MT hv];refine hK _ _ ?_;clear hK K;refine mS ?_;exact jW ⟨by rw[xdp fun q=>hv (by simpa using q)],rfl⟩
       ·refine eB T.mixed [] kM ?_;intro K hK;simp only[↓fM,↓fi,eZ,↓Cx,↓yJ,↓vU,nC,lO,tw,rU,rV,eZ,DX,aK,ah,aC,bF,ef,DX,aK,↓DN,Qa,Qb,Qc,Qd,Qe,Qf,Qg,Qh,seval,TT,g8,g6,g7,dB,nH,hj2,Wf,T9,Ua,Bz hu];refine hK _ _ ?_;clear hK K;refine mS ?_;exact jW ⟨by rw[xdp fun q=>hu (by simp only[gg.mk.injEq] at q;exact q.1)],rfl⟩
      ·refine jB (Ai @g8 (Ai @g6 (Ai @dB (dF nH)))) ?_;refine sI ?_;simp only[dJ,dn,if_true,if_false];refine eX _ _ ?_;clear eX eH K2 K3;refine jD (Ai @g5 (eK i oM)) ?_;refine⟨⟨i+1,oM,rfl,g2,g3,Eu (by rw[zR htt nH Ys]),rfl⟩,?_⟩;simp only[G5,dY,↓reduceIte];omega
    ·have xdq:(⟨f1,t1⟩:ft)≠⟨f2,t2⟩:=fun q=>hh2 (by simp only[ft.mk.injEq] at q;exact⟨q.1,by rw[q.2]⟩);by_cases hf:f1=f2
     ·have htt:t1.length≠t2.length:=fun q=>hh2 ⟨hf,q⟩;refine jB (Ai (ug hf) (Bz htt)) ?_;refine mS ?_;exact jW ⟨by rw[uS xdq],rfl⟩
     ·refine jB (Bz hf) ?_;refine mS ?_;exact jW ⟨by rw[uS xdq],rfl⟩
   ·refine jB (Ai @g5 (Ai @g2 (Ai @dB (dF et)))) ?_;refine sI ?_;simp only[dJ,dn,if_true];refine hK _ _ ?_;clear hK K eH K2;refine wq ?_;exact jW ⟨by rw[dT (by rw[zR hll et fG])],rfl⟩
 ·have Bi:decide ((⟨k1,p1,l1⟩:ia)=⟨k2,p2,l2⟩)=false:=dF fun q=>hh (by simp only[ia.mk.injEq] at q;exact⟨q.1,q.2.1,by rw[q.2.2]⟩);rw[Bi] at hK⊢;clear Bi;by_cases q1:k1=k2
  ·by_cases q2:p1=p2
   ·have q3:l1.length≠l2.length:=fun q=>hh ⟨q1,q2,q⟩;refine jB (Ai (ug q1) (Ai (HT q2) (Bz q3))) ?_;refine Ot ?_;exact jJ
   ·refine jB (Ai (ug q1) (MT q2)) ?_;refine Ot ?_;exact jJ
  ·refine jB (Bz q1) ?_;refine Ot ?_;exact jJ
end Go.Proofs.YtbiefppedlodiaaGreatDoor
namespace Go.AM
theorem EG{α:Type}{c:Prop}[Decidable c]{x:α}{y:Option α}(h:(if c then some x else y)=none):¬c∧y=none:=by
  split at h
  · cases h
  · exact⟨by assumption,h⟩
def EH(P:Int->Bool)(acc:List Int)(f:Int):List Int:=if P f=true∧f∉acc then acc++[f] else acc
def oC(P:Int->Bool)(S:List Int):List Int:=S.foldl (EH P) []
def H9(P:Int->Bool)(fresh:List Int)(n:Nat):List Int:=((aq n).map fun k=>((k:Nat):Int)).filter fun x=>decide (x∈fresh)&&P x
theorem QH(P:Int->Bool)(S:List Int):(oC P S).length<=S.length:=by
  have :∀(S acc:List Int),(S.foldl (EH P) acc).length<=acc.length+S.length:=by
    intro S;induction S with
    |nil=>simp
    |cons f S ih=>
      intro acc;rw[List.foldl_cons];have h1:=ih (EH P acc f);have h2:(EH P acc f).length<=acc.length+1:=(by unfold EH;split <;>simp);simp only[aY];omega
  simpa[oC] using this S []
theorem N4(P:Int->Bool)(S:List Int)(f:Int):oC P (S++[f])=EH P (oC P S) f:=by simp[oC]
theorem EI(P:Int->Bool):∀(S acc:List Int),S.Pairwise (·<=·)->acc.Pairwise (· < ·)->(∀a∈acc,∀b∈S,a<=b)->
    (S.foldl (EH P) acc).Pairwise (· < ·)∧∀x,x∈S.foldl (EH P) acc↔x∈acc∨(x∈S∧P x=true)
  |[],acc,_,h2,_=>by simp[h2]
  |f::S,acc,h1,h2,h3=>by
    rw[List.pairwise_cons] at h1;rw[List.foldl_cons];by_cases hc:P f=true∧f∉acc
    · have e:EH P acc f=acc++[f]:=if_pos hc;rw[e];obtain⟨i1,i2⟩:=EI P S (acc++[f]) h1.2 (by
        rw[List.pairwise_append];refine⟨h2,sM,fun a ha b hb=>?_⟩;simp only[b9] at hb;subst hb;have:=h3 a ha b sM;have :a≠b:=fun e=>hc.2 (e ▸ ha);omega) (by
        intro a ha b hb;simp only[cl,b9] at ha;rcases ha with ha|rfl
        · exact h3 a ha b (by simp[hb])
        · exact h1.1 b hb)
      refine⟨i1,fun x=>?_⟩;rw[i2];simp only[cl,bZ,List.not_mem_nil,or_false];constructor
      · rintro((a|rfl)|⟨a,b⟩)
        · exact .inl a
        · exact .inr ⟨.inl rfl,hc.1⟩
        · exact .inr ⟨.inr a,b⟩
      · rintro(a|⟨rfl|a,b⟩)
        · exact .inl (.inl a)
        · exact .inl (.inr rfl)
        · exact .inr ⟨a,b⟩
    · have e:EH P acc f=acc:=if_neg hc;rw[e];obtain⟨i1,i2⟩:=EI P S acc h1.2 h2 (fun a ha b hb=>h3 a ha b (by simp[hb]));refine⟨i1,fun x=>?_⟩;rw[i2];simp only[bZ];constructor
      · rintro(a|⟨a,b⟩)
        · exact .inl a
        · exact .inr ⟨.inr a,b⟩
      · rintro(a|⟨rfl|a,b⟩)
        · exact .inl a
        · by_cases hm:x∈acc
          · exact .inl hm
          · exact absurd ⟨b,hm⟩ hc
        · exact .inr ⟨a,b⟩
theorem Ub(P:Int->Bool)(S:List Int)(h:S.Pairwise (·<=·)):(oC P S).Pairwise (· < ·)∧∀x,x∈oC P S↔x∈S∧P x=true:=by
  have:=EI P S [] h sM sM;simpa[oC] using this
theorem zT:∀{a b:List Int},a.Pairwise (· < ·)->b.Pairwise (· < ·)->(∀x,x∈a↔x∈b)->a=b
  |[],b,_,_,h=>by
    cases b with
    |nil=>rfl
    |cons y b=>exact absurd ((h y).2 sM) sM
  |x::a,[],_,_,h=>absurd ((h x).1 sM) sM
  |x::a,y::b,h1,h2,h=>by
    rw[List.pairwise_cons] at h1 h2;have hxy:x=y:=by
      have hx:=(h x).1 sM;have hy:=(h y).2 sM;simp only[bZ] at hx hy;rcases hx with rfl|hx
      · rfl
      · rcases hy with rfl|hy
        · rfl
        · have:=h1.1 y hy;have:=h2.1 x hx;omega
    subst hxy;rw[zT h1.2 h2.2 fun z=>?_];have:=h z;simp only[bZ] at this;constructor
    · intro hz;rcases this.1 (.inr hz) with rfl|k
      · have:=h1.1 z hz;omega
      · exact k
    · intro hz;rcases this.2 (.inr hz) with rfl|k
      · have:=h2.1 z hz;omega
      · exact k
theorem WU(P:Int->Bool)(fresh:List Int)(n:Nat)(hP:∀x,P x=true->0<=x∧x<(n:Int)):oC P (fresh.mergeSort fun x y=>decide (x<=y))=H9 P fresh n:=by
  have hs:(fresh.mergeSort fun x y=>decide (x<=y)).Pairwise (·<=·):=by
    have:=List.pairwise_mergeSort (le:=fun x y:Int=>decide (x<=y)) (by intro a b c;simp;omega) (by intro a b;simp;omega) fresh;simpa using this
  obtain⟨h1,h2⟩:=Ub P _ hs;refine zT h1 ?_ fun x=>?_
  · unfold H9;refine List.Pairwise.filter _ ?_;rw[List.pairwise_map];exact(List.pairwise_lt_range).imp fun h=>oM
  · rw[h2];unfold H9;simp only[List.mem_filter,bJ,List.mem_range,au,decide_eq_true_eq,List.mem_mergeSort];constructor
    · rintro⟨a,b⟩;have:=hP x b;exact⟨⟨x.toNat,oM,oM⟩,a,b⟩
    · rintro⟨-,a,b⟩;exact⟨a,b⟩
end Go.AM
namespace Go.Proofs.YtbiefppedlodiaaGreatDoor
open Go Go.AM Go.Proofs Tryz
variable{Γ:Nat->List AV}
def EJ(s0 s:AS)(r:AV)(T:List cH):Prop:=∃O cap rest,r=.jd O 0 5 T.length cap∧s.dD O=some (eb cH.cells T++rest)∧T.length<=cap∧s0.dD O=none∧s0.le s
theorem IQ(t:List cH)(h0:t.length≠0)(ht:t.length<=2^30)(hw:∀n∈t,sR n)(s:AS):dS prog Γ 109 [eA t] s (fun r s'=>EJ s s' r t):=by
  refine dS.settle (FZ t ht hw s) ?_;rintro r s' ⟨TS,hT,hO⟩;have hl:TS.length=t.length:=(by rw[<-hT,aj]);rcases hO.row with⟨h1,_,_⟩|⟨O,cap,rest,rfl,hOb,mQ,Ax,Hf,I6⟩
  · exact absurd (hl ▸ h1) h0
  · obtain⟨s1,k1,k2,k3⟩:=Qp (Γ:=Γ) (hO.Wi O rfl) (.jd O 0 5 TS.length cap) TS [] s' hO.xs hO.le (hO.ZX O rfl) (by simpa[eb] using hOb);rw[aL,hT] at k2;rw[hl] at k1 Hf;exact⟨_,_,by rw[hl];exact k1,O,cap,rest,rfl,k2,Hf,hO.Wi O rfl,k3⟩
theorem F1(l:List Int)(hl:l.length<=2^40)(s:AS):aI prog Γ 111 [.wm 160 [.ij [.sl 1 l.length (l.map ed) .any]]] s (ea (l.mergeSort fun x y=>decide (x<=y)) .any):=by
  have QZ:=Im (Γ:=Γ) (l.map ed) l.length sM hl;rw[List.map_map] at QZ;refine dS.forget (dS.settle (Iu kM QZ hl s) ?_ (R:=fun r s'=>r=ea (l.mergeSort fun x y=>decide (x<=y)) .any∧s.le s')) fun r s' ⟨h1,h2⟩=>⟨s,h2,h1,rfl⟩;rintro r s' ⟨sr,wo,qL,hle⟩;rcases sr with⟨h0,_,_⟩|⟨o,cap,rest,rfl,ho,mQ,Ax,Hf,I6⟩
  · have e:(l.mergeSort fun x y=>decide (x<=y))=[]:=al h0;rw[wo e,e];exact⟨_,_,gj.dV AV.eh,rfl,hle⟩
  · exact⟨_,_,gj.outer ho sM,rfl,AS.th hle (qL o rfl)⟩
end Go.Proofs.YtbiefppedlodiaaGreatDoor
namespace Go.AM
theorem Uc(P:Int->Bool)(fresh:List Int)(n:Nat):(H9 P fresh n).length<=n:=by
  unfold H9;refine cB (List.length_filter_le _ _) ?_;simp
theorem EK{T:List cH}{u:Nat}(hu:u<T.length)(k:Nat)(p:List UInt8)(rest:List AV):
    ((eb cH.cells T++rest).set (u*5+2) (.v (.int .u64 k))).set (u*5+3) (dm p .any)=eb cH.cells (T.set u {nd T u with key:=k,parent:=p})++rest:=by
  have h0:=zM (c:=cH.cells) (k:=5) (fun n=>rfl) hu (nd T u) rest;have h1:=zM (c:=cH.cells) (k:=5) (fun n=>rfl) hu {nd T u with key:=k,parent:=p} rest;have hs:T.set u (nd T u)=T:=(by rw[xQ hu];exact List.set_getElem_self hu);rw[hs] at h0;rw[<-h1];generalize eb cH.cells T++rest=R at h0;generalize nd T u=N at *
  obtain⟨a,b,c,d,e⟩:=N;simp only[cH.cells,eQ] at h0⊢;apply List.ext_getElem?;intro i;have hi:=congrArg (fun l=>l[i]?) h0;simp only[List.getElem?_set,b8,Nat.add_assoc,Nat.reduceAdd] at hi⊢;by_cases e3:u*5+3=i
  · have e4:¬u*5+4=i:=oM;simp only[if_pos e3,if_neg e4]
  · by_cases e2:u*5+2=i
    · have e4:¬u*5+4=i:=oM;simp only[if_neg e3,if_pos e2,if_neg e4]
    · simp only[if_neg e3,if_neg e2] at hi⊢;exact hi.symm
end Go.AM
namespace Go.Proofs.YtbiefppedlodiaaGreatDoor
open Go Go.AM Go.Proofs Tryz
variable{Γ:Nat->List AV}
def iE(n:Nat):AV:=.v (.int .u64 n)
def zk(l:List Nat):AV:=.sl 1 l.length (l.map iE) .any
def DZ(t:List cH)(fresh:List Int)(up:Nat):List Int:=H9 (fun x=>lz up x&&decide (gE t x)) fresh (ee t)
def sy(t:List cH)(leaf:Nat)(keys:List Nat)(fresh:List Int):Nat->List cH×List UInt8
 |0=>(t,[])
 |i+1=>
  let j:=(dR leaf (ee t)).length-1-i
  let up:=(dR leaf (ee t)).getD j 0
  let p:=sy t leaf keys fresh i
  let b:cH:=⟨2,[],keys.getD j 0,p.2,DZ t fresh up⟩
  (p.1.set up b,tQ b (sW t (fE (nodeAt leaf (ee t) j))))
theorem lW(t:List cH)(leaf:Nat)(keys:List Nat)(fresh:List Int):∀i,(sy t leaf keys fresh i).1.length=t.length
 |0=>rfl
 |i+1=>by simp only[sy,b8];exact lW t leaf keys fresh i
def iK(t:List cH)(leaf key:Nat)(keys:List Nat)(fresh:List Int):List cH:=
 let p:=sy t leaf keys fresh (dR leaf (ee t)).length
 p.1.set (2*leaf) {nd p.1 (2*leaf) with key:=key,parent:=p.2}
def xdr(s:AS)(t:List cH)(leaf:Nat)(keys:List Nat)(fresh:List Int)(O cap qC uj xO:Nat)(rest:List AV)(i:Nat)(s':AS):Prop:=
 s.le s'∧s'.dD qC=some [.jd O 0 5 t.length cap]∧s'.dD uj=some [ea (ew (gT leaf (ee t))) .any]∧s'.dD xO=some [dm (sy t leaf keys fresh i).2 .any]∧s'.dD O=some (eb cH.cells (sy t leaf keys fresh i).1++rest)
theorem F2(jg:Γ 0=jZ Sha.H0)(mC:Γ 1=Sha.K.map wV)(hG:Γ 3=lQ.map uU)(t:List cH)(ht:iD t)(LV:t.length<=2^30)(hw:∀n∈t,sR n)(hr:eJ t)(leaf:Nat)(hm:gE t leaf)
  (key:Nat) (keys:List Nat) (hk:keys.length=(dR leaf (ee t)).length) (fresh:List Int) (hf:fresh.length<=2^40) (s:AS):
  dS prog Γ 50 [eA t,.v (.int .i64 leaf),.v (.int .u64 key),zk keys,ea fresh .any] s (fun r s'=>EJ s s' r (iK t leaf key keys fresh)):=by
 refine Dq func50 rfl ntmps50 results50 sM ?_;have xaj:ee t≠0:=hr.1;obtain⟨fN,nD⟩:Fit (ee t)∧t.length=2*ee t-1:=by
  rcases fA (t:=t) with h|h
  ·exact absurd h xaj
  ·exact h
 have uK:=fN.le;have vK:leaf<ee t:=by
  have:=hm.2.1;omega
 have AH:=fun s=>IQ (Γ:=Γ) t oM LV hw s;have jf:=fun s=>oe (Γ:=Γ) hG t ht s;rw[if_pos hr] at jf;have oA:=fun s=>qi (Γ:=Γ) hG leaf (ee t) fN vK s;have JB:=fun s=>og (Γ:=Γ) hG leaf (ee t) fN vK s;unfold eA zk ea at *
 refine vV ?_;intro K hK;refine jM ?_;intro o5 h5 o8 h8 o9 h9;refine hK _ _ ?_;clear hK K;refine HN (d:=9) rfl h9 ?_;refine HN (d:=8) rfl h8 ?_;refine HN (d:=5) rfl h5 ?_;clear h5 h8 h9;refine vV ?_;intro K hK;refine jM ?_;refine b6 (AH _) ?_;rintro r s1 ⟨O,cap,rest,rfl,hO,mV,Q5,uL⟩;refine jM ?_;intro qC h11;refine hK _ _ ?_;clear hK K;refine vV ?_;intro K hK;refine jM ?_;refine b6 (jf _) ?_;rintro r s2 ⟨rfl,rfl⟩;refine jR hK ?_;clear hK K;refine vV ?_;intro K hK;refine jM ?_;refine b6 (oA _) ?_;rintro r s3 ⟨rfl,rfl⟩;refine jM ?_;refine b6 (JB _) ?_;rintro r s4 ⟨rfl,rfl⟩;refine jM ?_;intro uj Q7;refine hK _ _ ?_;clear hK K;refine vV ?_;intro K hK;refine jM ?_;intro xO Nj;refine hK _ _ ?_;clear hK K;obtain⟨Ss,Q7⟩:=EG Q7;obtain⟨Ud,Nj⟩:=EG Nj;obtain⟨O1,Nj⟩:=EG Nj;have xak:O≠qC:=(fun e=>by rw[e,h11] at hO;cases hO);have xds:O≠uj:=(fun e=>by rw[e,Q7] at hO;cases hO);have WV:O≠xO:=(fun e=>by rw[e,Nj] at hO;cases hO);have m11:s.dD qC=none:=AS.le_none uL h11;have m14:s.dD uj=none:=AS.le_none uL Q7;have Yi:s.dD xO=none:=AS.le_none uL Nj;have UU:(ew (dR leaf (ee t))).length=(dR leaf (ee t)).length:=fh _;have Cu:=kV fN vK;refine PQ (AS.oK (cs':=[dm [] .any]) (AS.bG _ _ _) (.cons AV.eh .nil)) ?_;rw[AS.set_set];refine wO dM ?_;intro K hK;refine jM ?_;refine b6 (Eb _ _ _) ?_;rintro r s5 ⟨rfl,rfl⟩;refine jR hK ?_;clear hK K;refine⟨157,_,_,fun i s'=>xdr s t leaf keys fresh O cap qC uj xO rest i s',by simp only[ef,dY,UU,Nc,↓reduceIte],kM,Ec _ _ UU oM,sM,?_,?_,?_⟩
 ·refine⟨AS.dW (AS.dW (AS.dW uL m11 _) m14 _) Yi _,?_,?_,AS.bG _ _ _,?_⟩
  ·rw[AS.cO _ (bI O1),AS.cO _ (bI Ss),AS.bG]
  ·rw[AS.cO _ (bI Ud),AS.bG];rfl
  ·rw[AS.cO _ WV,AS.cO _ xds,AS.cO _ xak,hO];rfl
 ·rintro i0 x s2 hx ⟨iL,wX,X8,FC,qO⟩;obtain⟨lu,rfl⟩:i0<(dR leaf (ee t)).length∧x=[ed (((dR leaf (ee t)).length-1-i0:Nat):Int),ed ((ew (dR leaf (ee t))).getD ((dR leaf (ee t)).length-1-i0) 0)]:=by
   rw[List.getElem?_map] at hx;cases hh:(aq (dR leaf (ee t)).length)[i0]? with
   |none=>rw[hh] at hx;cases hx
   |some v=>
    rw[hh] at hx;obtain⟨h1,h2⟩:=List.getElem?_eq_some_iff.1 hh;simp at h1 h2;subst h2;simp at hx;exact⟨h1,hx.symm⟩
  simp only[Fm];have P8:(dR leaf (ee t)).length-1-i0<(dR leaf (ee t)).length:=oM;obtain⟨j,hj⟩:∃j,j=(dR leaf (ee t)).length-1-i0:=⟨_,rfl⟩;have UT:(ew (dR leaf (ee t))).getD j 0=(((dR leaf (ee t)).getD j 0:Nat):Int):=by
   rw[<-hj] at P8;simp[ew,bj,P8]
  rw[<-hj] at P8⊢;rw[UT];obtain⟨up,IU⟩:∃up,up=(dR leaf (ee t)).getD j 0:=⟨_,rfl⟩;rw[<-IU];simp only[ed];obtain⟨par,FB⟩:∃par,par=(sy t leaf keys fresh i0).2:=⟨_,rfl⟩;obtain⟨TZ,hTZ⟩:∃TZ,TZ=(sy t leaf keys fresh i0).1:=⟨_,rfl⟩;rw[<-FB] at FC;rw[<-hTZ] at qO;have hkj:j<keys.length:=oM;have pR:(aG 1 (aJ j (keys.map iE)))[0]? =some (AV.v (.int .u64 (keys.getD j 0:Nat))):=by
   simp[aD,bj,hkj,iE]
  have gC:(0:Int)<=((j:Nat):Int):=oM;have fB:((j:Nat):Int)<(keys.length:Int):=oM;refine jA ?_;refine jC ?_;refine⟨rfl,?_⟩;refine dH ?_;unfold dm at FC;refine iT T.mixed [(xO,[.sl 1 par.length (par.map cU) .any])] [6,7] [4] [] kM (by simp only[dZ,ec,and_true];simp[AS.set,dY,FC]) ?_;intro K hK;simp only[↓eN,↓eD,gY,gS,eg,ej,dZ,ec,bd,bn,bz,bE,aK,cp,cu,cC,bN,↓DN,Qa,Qb,Qc,Qd,Qe,Qf,Qg,Qh,seval,TT,gC,fB,pR,FC];intro ob sr;have xdu:¬xO=ob:=(fun e=>by rw[<-e,FC] at sr;cases sr);simp only[if_neg xdu,true_and,and_true];refine hK _ _ ?_;clear hK K;refine qB (AS.oK (cs':=[.v (.int .i64 2),dm [] .any,.v (.int .u64 (keys.getD j 0:Nat)),dm par .any,eW]) (AS.bG _ _ _) (.cons (.refl _) (.cons AV.eh (.cons (.refl _) (.cons (.refl _) (.cons (.refl _) .nil)))))) ?_;rw[AS.set_set];have Z2:=AS.bG s2 ob [.v (.int .i64 2),dm [] .any,.v (.int .u64 (keys.getD j 0:Nat)),dm par .any,eW];have xdv:s2.le (s2.set ob [.v (.int .i64 2),dm [] .any,.v (.int .u64 (keys.getD j 0:Nat)),dm par .any,eW]):=AS.dW (AS.le.refl _) sr _;generalize s2.set ob [.v (.int .i64 2),dm [] .any,.v (.int .u64 (keys.getD j 0:Nat)),dm par .any,eW]=s3 at Z2 xdv⊢;obtain⟨P,hP⟩:∃P:Int->Bool,P=fun x=>lz up x&&decide (gE t x):=⟨_,rfl⟩;obtain⟨S,hS⟩:∃S,S=fresh.mergeSort fun x y=>decide (x<=y):=⟨_,rfl⟩;have To:S.length<=2^40:=(by rw[hS];simpa using hf);have hU:oC P S=DZ t fresh up:=by
   rw[hS,hP];refine WU _ _ _ fun x hx=>?_;simp only[au,decide_eq_true_eq] at hx;obtain⟨-,h1,h2,-⟩:=hx;exact⟨h1,oM⟩
  have Ue:=fun s=>F1 (Γ:=Γ) fresh hf s;rw[<-hS] at Ue;have rI:=fun f s=>ri (Γ:=Γ) t ht.1 f s;unfold eA at rI;unfold ea at Ue;refine UK fun K hK K hK=>?_;refine b6 (Il _ _ _) ?_;rintro r s4 ⟨rfl,rfl⟩;simp only[↓fM,↓fi,eZ,↓eN,↓eD,gY,gS,eg,ej,dZ,ec,bd,bn,DX,aK,↓DN,Qa,Qb,Qc,Qd,Qe,Qf,Qg,Qh,seval,TT];refine b6 (Ue _) ?_;rintro r s5 ⟨rfl,rfl⟩;simp only[↓fM,↓fi,eZ,↓eN,↓eD,gY,gS,eg,ej,dZ,ec,bd,bn,DX,aK,↓DN,Qa,Qb,Qc,Qd,Qe,Qf,Qg,Qh,seval,TT];refine hK _ _ ?_;clear hK K;refine dH<|dU (fun E s'=>∃(i:Nat)(x:AV),i<=S.length∧E 43=.sl 1 S.length (S.map ed) .any∧E 44=.v (.int .i64 S.length)∧E 45=.v (.int .i64 i)∧E 5=.ij [.sl 5 t.length (eb cH.cells t) .any]∧E 11=.ptr qC 0∧E 14=.ptr uj 0∧E 15=.ptr xO 0∧E 16=.v (.int .i64 j)∧E 17=.v (.int .i64 up)∧E 18=.ptr ob 0∧
    s'.dD ob=some [.v (.int .i64 2),dm [] .any,.v (.int .u64 (keys.getD j 0:Nat)),dm par .any,x]∧il 1 s2 s' x (oC P (S.take i)).length ((oC P (S.take i)).map ed)∧s2.le s')
   (fun E _=>match E 45 with |.v (.int _ i)=>S.length-i.toNat|_=>0) ?_ ?_
  ·exact⟨0,eW,aA _,rfl,rfl,rfl,rfl,rfl,rfl,rfl,rfl,rfl,rfl,Z2,by simpa[oC] using il.nil 1 s2 s5,xdv⟩
  ·rintro E1 s6 ⟨i,x,hi,e43,e44,WW,e5,wW,e14,Q6,OM,e17,UX,uP,hx,mY⟩ -
   by_cases et:i<S.length
   ·have pB:((i:Nat):Int)<(S.length:Int):=oM;have rK:(0:Int)<=((i:Nat):Int):=oM;have lr:(aG 1 (aJ i (S.map ed)))[0]? =some (AV.v (.int .i64 S[i])):=by
     simp[aD,et,ed]
    have gN:oC P (S.take (i+1))=EH P (oC P (S.take i)) S[i]:=(by rw[af et,N4]);generalize S[i]=f at lr gN;have Lp:(oC P (S.take i)).length<=2^40:=cB (QH P _) (by rw[List.length_take];omega);generalize oC P (S.take i)=acc at *
    obtain⟨Bc,Yt⟩:∃Bc,Bc=oC P (S.take (i+1)):=⟨_,rfl⟩;rw[<-Yt] at gN;refine jB (Ai @e44 (Ai @WW (dT pB))) ?_;refine Ja fun K2 eH=>?_;refine eH _ _<|nF fun K3 eX=>?_;refine jB (Ai @e43 (Ai @WW (Ai @pB (Ai @rK @lr)))) ?_;have fu:∀(E:Env)(s7:AS)(x':AV),E 43=.sl 1 S.length (S.map ed) .any->E 44=.v (.int .i64 S.length)->E 45=.v (.int .i64 i)->E 5=.ij [.sl 5 t.length (eb cH.cells t) .any]->E 11=.ptr qC 0->E 14=.ptr uj 0->E 15=.ptr xO 0->E 16=.v (.int .i64 j)->E 17=.v (.int .i64 up)->E 18=.ptr ob 0->
      s7.dD ob=some [.v (.int .i64 2),dm [] .any,.v (.int .u64 (keys.getD j 0:Nat)),dm par .any,x']->il 1 s2 s7 x' Bc.length (Bc.map ed)->s2.le s7->K3 E s7:=by
     intro E s7 x' f43 f44 f45 f5 f11 f14 f15 f16 f17 f18 xao fx Dx;refine eX _ _ ?_;clear eX K3;refine jD (Ai @f45 (eK i oM)) ?_;refine⟨⟨i+1,x',et,f43,f44,rfl,f5,f11,f14,f15,f16,f17,f18,xao,by rw[<-Yt];exact fx,Dx⟩,?_⟩;simp only[WW,dY,↓reduceIte];omega
    clear eX;have hPf:P f=(lz up f&&decide (gE t f)):=(by rw[hP]);have Pl:=fun s=>w9 (Γ:=Γ) hG up f s;have Y8:=fun s=>rI f s;have V0:=fun s=>dS.mB (.cons hx.dV (.cons (.refl _) .nil)) (oc (Γ:=Γ) acc f oM s);generalize lz up f=b1 at hPf Pl;generalize decide (gE t f)=b2 at hPf Y8;have uS:P f=false->Bc=acc:=(fun h=>by rw[gN];exact if_neg (by rw[h];simp));have Hf:f∈acc->Bc=acc:=(fun h=>by rw[gN];exact if_neg fun k=>k.2 h);have Eu:P f=true->f∉acc->Bc=acc++[f]:=(fun h k=>by rw[gN];exact if_pos ⟨h,k⟩);refine jS @e17 fun K hK=>?_;refine b6 (Pl _) ?_;rintro r s7 ⟨rfl,rfl⟩;cases b1 with
    |false=>
     refine jR hK ?_;clear hK K;refine gW ?_;simp only[dn,dJ,if_true,if_false];rw[uS (by rw[hPf];rfl)] at fu;exact fu _ _ x e43 e44 WW e5 wW e14 Q6 OM e17 UX uP hx mY
    |true=>
     refine jN @e5 ?_;refine b6 (Y8 _) ?_;rintro r s8 ⟨rfl,rfl⟩;cases b2 with
     |false=>
      refine jR hK ?_;clear hK K;refine gW ?_;simp only[dn,dJ,if_true,if_false];rw[uS (by rw[hPf];rfl)] at fu;exact fu _ _ x e43 e44 WW e5 wW e14 Q6 OM e17 UX uP hx mY
     |true=>
      refine jN (Ai @UX @uP) ?_;refine b6 (V0 _) ?_;rintro r s9 ⟨rfl,rfl⟩;by_cases ZA:f∈acc
      ·rw[dT ZA];refine jR hK ?_;clear hK K;refine gW ?_;simp only[dn,dJ,if_true,if_false];rw[Hf ZA] at fu;exact fu _ _ x e43 e44 WW e5 wW e14 Q6 OM e17 UX uP hx mY
      ·rw[dF ZA];rw[Eu (by rw[hPf];rfl) ZA,aF,ai] at fu;refine jR hK ?_;clear hK K;refine jE ?_;rcases hx with⟨rfl,lu,yS⟩|⟨tk,ek,rfl,ir,zd⟩
       ·unfold eW at uP;refine wE fun K hK=>?_;simp only[↓DN,Qa,Qb,Qc,Qd,Qe,Qf,Qg,Qh,seval,TT,UX,uP,av];intro tk ir;refine hK _ _ (fu _ _ (.sl 1 1 [.v (.int .i64 f)] (.own tk 0)) e43 e44 WW e5 wW e14 Q6 OM e17 UX ?_ ?_ ?_)
        ·rw[AS.bG];rfl
        ·have :acc=[]:=al lu;subst this;exact .inr ⟨tk,0,rfl,by simp[AS.eT,AS.set],eC mY ir⟩
        ·exact AS.dW (AS.eE mY (eC mY ir) 0) sr _
       ·refine wE fun K hK=>?_;simp only[↓DN,Qa,Qb,Qc,Qd,Qe,Qf,Qg,Qh,seval,TT,UX,uP,ir,av];refine⟨oM,oM,hK _ _ (fu _ _ (.sl 1 (acc.length+1) (acc.map ed++[.v (.int .i64 f)]) (.own tk (ek+1))) e43 e44 WW e5 wW e14 Q6 OM e17 UX ?_ ?_ ?_)⟩
        ·rw[AS.bG];rfl
        ·exact .inr ⟨tk,ek+1,rfl,by simp[AS.eT,AS.set],zd⟩
        ·exact AS.dW (AS.eE mY zd (ek+1)) sr _
   ·have pB:¬((i:Nat):Int)<(S.length:Int):=oM;obtain rfl:i=S.length:=oM;refine jB (Ai @e44 (Ai @WW (dF pB))) ?_;refine Jb fun K2 eH=>?_;simp only[dJ,dn,if_true];refine hK _ _ ?_;rw[List.take_length,hU] at hx;obtain⟨U,hUe⟩:∃U,U=DZ t fresh up:=⟨_,rfl⟩;rw[<-hUe] at hx;obtain⟨b,hb⟩:∃b:cH,b=⟨2,[],keys.getD j 0,par,U⟩:=⟨_,rfl⟩;refine qB (AS.oK (cs':=b.cells) uP (by rw[hb];exact .cons (.refl _) (.cons (.refl _) (.cons (.refl _) (.cons (.refl _) (.cons hx.dV .nil)))))) ?_;have O2:=AS.bG s6 ob b.cells;have sw:s2.le (s6.set ob b.cells):=AS.dW mY sr _;generalize s6.set ob b.cells=s7 at O2 sw⊢;have r11:=sw.dD _ _ wX;have r14:=sw.dD _ _ X8;have r15:=sw.dD _ _ FC;have rO:=sw.dD _ _ qO;have Uf:TZ.length=t.length:=(by rw[hTZ];exact lW ..);have xap:up<TZ.length:=by
     have h1:up∈dR leaf (ee t):=by
      rw[IU];simp[bj,P8]
     have:=(vv fN vK up h1).1;omega
    have S7:(0:Int)<=((up:Nat):Int):=oM;have Dh:((up:Nat):Int)<(t.length:Int):=oM;have rM:=zM (k:=5) (fun n=>oS n) xap b rest;have P7:(eb cH.cells TZ++rest).length=TZ.length*5+rest.length:=(by rw[ai,Go.AM.gU oS]);generalize eb cH.cells TZ++rest=R at rO rM P7;have hbc:b.cells=[.v (.int .i64 2),dm [] .any,.v (.int .u64 (keys.getD j 0:Nat)),dm par .any,ea U .any]:=(by rw[hb];rfl);rw[hbc] at rM O2;simp only[eQ] at rM;unfold dm ea at O2 rM;simp only[aW,bF] at O2 rM;refine jS (Ai @wW (Ai @e17 (Ai @UX (Ai @r11 (Ai @O2 (Ai @rO (Ai @S7 @Dh))))))) fun K hK=>?_;refine⟨oM,hK _ _ ?_⟩;rw[rM];have nOb:O≠ob:=(fun e=>by rw[<-e,qO] at sr;cases sr);have xhr:uj≠ob:=(fun e=>by rw[<-e,X8] at sr;cases sr);have xla:qC≠ob:=(fun e=>by rw[<-e,wX] at sr;cases sr);have Ug:s.le (s7.set O (eb cH.cells (TZ.set up b)++rest)):=AS.dW (iL.trans sw) Q5 _;have u11:(s7.set O (eb cH.cells (TZ.set up b)++rest)).dD qC=_:=(AS.cO _ (bI xak) _).trans r11;have Yu:(s7.set O (eb cH.cells (TZ.set up b)++rest)).dD uj=_:=(AS.cO _ (bI xds) _).trans r14;have u15:(s7.set O (eb cH.cells (TZ.set up b)++rest)).dD xO=_:=(AS.cO _ (bI WV) _).trans r15;have uO:=AS.bG s7 O (eb cH.cells (TZ.set up b)++rest);have ub:(s7.set O (eb cH.cells (TZ.set up b)++rest)).dD ob=_:=(AS.cO _ (bI nOb) _).trans O2;generalize s7.set O (eb cH.cells (TZ.set up b)++rest)=s8 at Ug u11 Yu u15 uO ub⊢;have Ni:(ew (gT leaf (ee t))).length=(dR leaf (ee t)).length:=(by simp[fh,gT]);have KP:(aG 1 (aJ j ((ew (gT leaf (ee t))).map ed)))[0]? =some (AV.v (.int .i64 (fE (nodeAt leaf (ee t) j):Nat))):=by
     simp[aD,ew,gT,P8,ed]
    have BU:=fun s=>FX (Γ:=Γ) jg mC hG t ht (fE (nodeAt leaf (ee t) j):Nat) s;have uC:=fun s=>A7 (Γ:=Γ) jg mC b (by rw[hb,hUe];exact cB (Uc _ _ _) oM) (sW t (fE (nodeAt leaf (ee t) j):Nat)) (by
     unfold sW;split
     ·exact cB (qE t _ _) oM
     ·simp) s
    rw[hbc] at uC;have xhs:(0:Int)<=((j:Nat):Int):=oM;have xdA:((j:Nat):Int)<(((ew (gT leaf (ee t))).length:Nat):Int):=oM;obtain⟨HH,hHH⟩:∃HH,HH=sW t (fE (nodeAt leaf (ee t) j):Nat):=⟨_,rfl⟩;rw[<-hHH] at BU uC;obtain⟨PD,hPD⟩:∃PD,PD=tQ b HH:=⟨_,rfl⟩;rw[<-hPD] at uC;obtain⟨SD,hSD⟩:∃SD,SD=ew (gT leaf (ee t)):=⟨_,rfl⟩;rw[<-hSD] at Ni KP Yu xdA;unfold eA at BU;unfold dm at BU uC;unfold ea at Yu uC;simp only[aW,bF] at uC;generalize eb cH.cells t=XT at *
    have Uh:¬ob=uj:=fun e=>xhr e.symm;have xaq:¬ob=xO:=fun e=>xdu e.symm;refine gl T.mixed [(ob,[.v (.int .i64 2),.sl 1 0 [] .any,.v (.int .u64 (keys.getD j 0:Nat)),.sl 1 par.length (par.map cU) .any,.sl 1 U.length (U.map ed) .any]),(uj,[.sl 1 SD.length (SD.map ed) .any])] [6,7,8] [0,2] [] kM (by simp only[dZ,ec,and_true];simp[AS.set,dY,Yu,ub,u15]) ?_;intro K hK;simp only[↓eN,↓eD,gY,gS,eg,ej,dZ,ec,bd,bn,bz,bE,aK,cp,cu,cC,bN,↓DN,Qa,Qb,Qc,Qd,Qe,Qf,Qg,Qh,seval,TT,e5,e14,Q6,OM,UX,xhs,xdA,KP,Yu,ub,u15,Uh,xaq];refine b6 (BU _) ?_;rintro r s9 ⟨rfl,rfl⟩;simp only[↓fM,↓fi,eZ,↓eN,↓eD,gY,gS,eg,ej,dZ,ec,bd,bn,DX,aK,↓DN,Qa,Qb,Qc,Qd,Qe,Qf,Qg,Qh,seval,TT,Yu,ub,u15,Uh,xaq];refine b6 (uC _) ?_;rintro r Sj ⟨rfl,rfl⟩;have xdB:¬uj=xO:=fun e=>Ud e.symm;simp only[↓fM,↓fi,eZ,↓eN,↓eD,gY,gS,eg,ej,dZ,ec,bd,bn,DX,aK,↓DN,Qa,Qb,Qc,Qd,Qe,Qf,Qg,Qh,seval,TT,Q6,Yu,ub,u15,Uh,xaq,xdB];refine hK _ _ ?_;simp only[dn,true_and];have nH:j=(dR leaf (ee t)).length-1-i0:=hj;refine⟨AS.dW Ug Yi _,(AS.cO _ (bI O1) _).trans u11,(AS.cO _ (bI Ud) _).trans (by rw[Yu,hSD];rfl),?_,?_⟩
    ·rw[AS.bG,hPD,hHH,hb,hUe,FB,IU,hj];rfl
    ·rw[AS.cO _ WV,uO,hb,hUe,FB,IU,hTZ,hj];rfl
 ·rw[show((aq (dR leaf (ee t)).length).map fun i=>[ed (((dR leaf (ee t)).length-1-i:Nat):Int),ed ((ew (dR leaf (ee t))).getD ((dR leaf (ee t)).length-1-i) 0)]).length=(dR leaf (ee t)).length by simp];rintro s2 ⟨iL,wX,X8,FC,qO⟩;have Uf:=lW t leaf keys fresh (dR leaf (ee t)).length;obtain⟨W,hW⟩:∃W,W=iK t leaf key keys fresh:=⟨_,rfl⟩;rw[<-hW];unfold iK at hW;simp only at hW;generalize (sy t leaf keys fresh (dR leaf (ee t)).length).2=par at *
  generalize (sy t leaf keys fresh (dR leaf (ee t)).length).1=TZ at *
  have hu:2*leaf<TZ.length:=oM;have rM:=EK hu key par rest;have P7:(eb cH.cells TZ++rest).length=TZ.length*5+rest.length:=(by rw[ai,Go.AM.gU oS]);rw[<-hW] at rM;have Kd:W.length=t.length:=(by rw[hW,b8,Uf]);generalize eb cH.cells TZ++rest=R at qO rM P7;unfold dm at FC rM;have gC:(0:Int)<=((2*leaf:Nat):Int):=oM;have fB:((2*leaf:Nat):Int)<(t.length:Int):=oM;have WX:2*leaf<t.length:=oM;have xdC:¬qC=O:=fun e=>xak e.symm;have xht:¬xO=O:=fun e=>WV e.symm;refine iT T.mixed [(qC,[.jd O 0 5 t.length cap]),(xO,[.sl 1 par.length (par.map cU) .any])] [10,13] [0,3,7] [] kM (by simp only[dZ,ec,and_true];simp[AS.set,dY,wX,FC]) ?_;intro K hK;simp only[↓eN,↓eD,gY,gS,eg,ej,dZ,ec,bd,bn,bz,bE,aK,cp,cu,cC,bN,↓DN,Qa,Qb,Qc,Qd,Qe,Qf,Qg,Qh,seval,TT,fp leaf oM,gC,fB,dB,WX,wX,FC,qO,xdC,xht,O1,bI O1];refine⟨oM,by rw[b8];omega,hK _ _ ?_⟩;rw[rM];have u11:(s2.set O (eb cH.cells W++rest)).dD qC=_:=(AS.cO _ xdC _).trans wX;have uO:=AS.bG s2 O (eb cH.cells W++rest);have mi:s.le (s2.set O (eb cH.cells W++rest)):=AS.dW iL Q5 _;generalize s2.set O (eb cH.cells W++rest)=s3 at u11 uO mi⊢;refine jB @u11 ?_;refine jI ?_;exact jW ⟨O,cap,rest,by rw[Kd],uO,by rw[Kd];exact mV,Q5,mi⟩
theorem EJ.settle{s s':AS}{r:AV}{T:List cH}(h:EJ s s' r T):∃s2,gj Γ s' r s2 (eA T)∧s.le s2:=by
 obtain⟨O,cap,rest,rfl,h1,_,h3,h4⟩:=h;exact⟨_,gj.outer h1 (Go.AM.gU oS _),AS.th h4 h3⟩
theorem zj(jg:Γ 0=jZ Sha.H0)(mC:Γ 1=Sha.K.map wV)(hG:Γ 3=lQ.map uU)(t:List cH)(ht:iD t)(LV:t.length<=2^30)(hw:∀n∈t,sR n)(hr:eJ t)(leaf:Nat)(hm:gE t leaf)
  (key:Nat) (keys:List Nat) (hk:keys.length=(dR leaf (ee t)).length) (fresh:List Int) (hf:fresh.length<=2^40) (s:AS):
  aI prog Γ 50 [eA t,.v (.int .i64 leaf),.v (.int .u64 key),zk keys,ea fresh .any] s (eA (iK t leaf key keys fresh)):=by
 refine dS.forget (dS.settle (F2 jg mC hG t ht LV hw hr leaf hm key keys hk fresh hf s) ?_ (R:=fun r s'=>r=eA (iK t leaf key keys fresh)∧s.le s')) fun r s' ⟨h1,h2⟩=>⟨s,h2,h1,rfl⟩;intro r s' h;obtain⟨s2,h1,h2⟩:=EJ.settle (Γ:=Γ) h;exact⟨_,_,h1,rfl,h2⟩
def lV(n:Nat):Bool:=decide (2<=(n:Int))&&decide ((n:Int)<=2305843009213693949)
def GA(t:List cH)(leaf:Nat)(fresh:List Int)(q:ft)(i:Nat):Bool:=
 lV q.key&&decide (q.iJ.length=(ff t (fE (nodeAt leaf (ee t) i):Nat) fresh).length)
def AQ(t:List cH)(leaf:Nat)(fresh:List Int)(l:List ft):Bool:=(aq l.length).all fun i=>GA t leaf fresh (l.getD i ⟨0,[]⟩) i
def sA(t:List cH)(leaf:Int)(p:ia)(fresh:List Int):List cH×Int:=
 if qn t leaf≠0 then([],qn t leaf)
 else if p.steps.length≠(dR leaf.toNat (ee t)).length∨lV p.key=false then([],45)
 else if AQ t leaf.toNat fresh p.steps=false then([],45)
 else
  let out:=iK t leaf.toNat p.key (p.steps.map (·.key)) fresh
  if(nd out (2*leaf.toNat)).parent=p.parent then(out,0) else([],45)
theorem oR{t:List cH}{i:Int}:qn t i=0↔eJ t∧gE t i:=by
 unfold qn;split
 ·split <;>simp_all
 ·simp_all
theorem xa(jg:Γ 0=jZ Sha.H0)(mC:Γ 1=Sha.K.map wV)(hG:Γ 3=lQ.map uU)(t:List cH)(ht:iD t)(LV:t.length<=2^30)(hw:∀n∈t,sR n)(leaf:Int)
  (p:ia) (hp:p.steps.length<=2^40) (fresh:List Int) (hf:fresh.length<=2^40) (s:AS):
  dS prog Γ 15 [eA t,.v (.int .i64 leaf),.agg p.cells,ea fresh .any] s (fun r s'=>r=.ka [eA (sA t leaf p fresh).1,.v (.int .i64 (sA t leaf p fresh).2)]∧s'=s):=by
 refine fm func15 rfl ntmps15 results15 (by simp) ?_;have KD:=fun s=>BL (Γ:=Γ) hG t ht leaf s;have jf:=fun s=>oe (Γ:=Γ) hG t ht s;have SR:=fun n s=>gz (Γ:=Γ) n s;have iz:=fun x s=>oQ (Γ:=Γ) hG t ht x fresh (by omega) s;have Gy:=fun hr leaf hm key keys hk s=>zj (Γ:=Γ) jg mC hG t ht LV hw hr leaf hm key keys hk fresh hf s;obtain⟨A,hA⟩:∃A,A=sA t leaf p fresh:=⟨_,rfl⟩;rw[<-hA];have wo:(AV.v (.slice none 0 0)).dV (eA []):=AV.eh;obtain⟨py,ppa,yf⟩:=p;unfold ia.cells;unfold eA at KD jf iz⊢;unfold ea at iz⊢;simp only at hp;have Cc:=fun i(h:i<yf.length)=>nv (c:=ft.cells) (k:=2) (fun _=>rfl) h;generalize hY:eb ft.cells yf=Y at *
 generalize hXe:eb cH.cells t=X at *
 unfold dm;refine ev 6 (by decide) ?_;intro K hK;refine jM ?_;intro o1 h1;refine hK _ _ o1 _ rfl h1 ?_;clear hK K h1;refine wK fun K hK=>?_;refine jK (KD _) ?_;rintro s1 rfl;by_cases he:qn t leaf=0
 ·have e0:(qn t leaf != 0)=false:=(by simp[he]);refine jB @e0 ?_;refine jF ?_;refine dX ?_;refine hK _ _ ?_;clear hK K;obtain⟨hr,hm⟩:=oR.1 he;obtain⟨lf,rfl⟩:=Int.eq_ofNat_of_zero_le hm.1;obtain⟨fN,nD⟩:Fit (ee t)∧t.length=2*ee t-1:=by
   rcases fA (t:=t) with h|h
   ·exact absurd h hr.1
   ·exact h
  have uK:=fN.le;have kS:lf<ee t:=by
   have:=hm.2.1;omega
  have Cu:=kV fN kS;have JB:=fun s=>og (Γ:=Γ) hG lf (ee t) fN kS s;have Ni:(ew (gT lf (ee t))).length=(dR lf (ee t)).length:=(by simp[fh,gT]);have ZB:∀i,i<(dR lf (ee t)).length->(List.take 1 (List.drop i ((ew (gT lf (ee t))).map ed)))[0]? =some (AV.v (.int .i64 (fE (nodeAt lf (ee t) i):Nat))):=by
   intro i hi;simp[List.getElem?_take,ew,gT,hi,ed]
  unfold ea at JB;generalize ew (gT lf (ee t))=SD at *
  rw[if_pos hr] at jf;unfold sA at hA;rw[if_neg (by rw[he];simp)] at hA;simp only[Int.toNat_natCast] at hA;refine jQ fun K hK=>?_;refine b6 (jf _) ?_;rintro r s2 ⟨rfl,rfl⟩;refine jM ?_;refine b6 (JB _) ?_;rintro r s3 ⟨rfl,rfl⟩;refine jR hK ?_;clear hK K;have mq:A=([],45)->∀(E:Env)(s5:AS),s3.le s5->E 8=.v (.slice none 0 0)->E 9=.v (.int .i64 45)->fe prog (#[ResultVar.tmp 8,ResultVar.tmp 9]:Array ResultVar).toList (fun r s'=>r=.ka [.sl 5 A.1.length (eb cH.cells A.1) .any,.v (.int .i64 A.2)]∧s'=s3) E s5:=by
   intro hA' E s5 hle f8 f9;rw[hA'];simp only[fe,fq,iu,f8,f9];exact⟨_,_,AV.gJ wo (AV.dV.refl _),hle,rfl,rfl⟩
  refine wK fun K hK=>?_;by_cases hl:yf.length=(dR lf (ee t)).length
  ·have e1:((yf.length:Int) != (SD.length:Int))=false:=(by rw[Ni,hl];simp);refine jS @e1 fun K hK=>?_;refine b6 (SR py _) ?_;rintro r s4 ⟨rfl,rfl⟩;obtain⟨q,hq⟩:∃q,q=lV py:=⟨_,rfl⟩;have LW:(decide (2<=(py:Int))&&decide ((py:Int)<=2305843009213693949))=q:=hq.symm;rw[LW];cases q with
   |false=>
    rw[if_pos (.inr hq.symm)] at hA;refine jR hK ?_;clear hK K;refine jE ?_;refine jA ?_;refine eF ?_;try simp only[dJ,dn]
    exact mq hA _ _ (AS.le.refl _) rfl rfl
   |true=>
    rw[if_neg (by rw[<-hq];simp[hl])] at hA;refine jR hK ?_;clear hK K;refine jF ?_;refine dX ?_;refine hK _ _ ?_;clear hK K;have xdE:∀i,(h:i<yf.length)->GA t lf fresh yf[i] i=false->A=([],45):=by
     intro i h hb;rw[hA,if_pos];unfold AQ;rw[List.all_eq_false];exact⟨i,by simpa using h,by simp[List.getD,h,hb]⟩
    have xar:(∀i,(h:i<yf.length)->GA t lf fresh yf[i] i=true)->AQ t lf fresh yf=true:=by
     intro h;unfold AQ;rw[List.all_eq_true];intro i hi;have et:i<yf.length:=(by simpa using hi);simp[List.getD,et,h i et]
    obtain⟨kl,sD⟩:∃kl,kl=yf.map (·.key):=⟨_,rfl⟩;have xhu:kl.length=yf.length:=(by rw[sD,List.length_map]);have xhv:∀i,(h:i<yf.length)->(kl.take (i+1)).map iE=(kl.take i).map iE++[.v (.int .u64 (yf[i].key:Nat))]:=by
     intro i h;rw[List.take_succ_eq_append_getElem (by omega),List.map_append];simp[sD,iE]
    rw[<-sD] at hA;have MB:s4.le s4:=AS.le.refl _;refine jA ?_;refine wK fun K hK=>?_;refine jA ?_;refine dH ?_;refine dU (fun E s'=>∃(i:Nat)(x:AV),i<=yf.length∧(∀j,(h:j<yf.length)->j<i->GA t lf fresh yf[j] j=true)∧E 39=.sl 2 yf.length Y .any∧E 40=.v (.int .i64 yf.length)∧E 41=.v (.int .i64 i)∧E 0=.sl 5 t.length X .any∧E 1=.v (.int .i64 lf)∧E 3=.sl 1 fresh.length (fresh.map ed) .any∧
      E 6=.ij [.v (.int .u64 py),.sl 1 ppa.length (ppa.map cU) .any,.sl 2 yf.length Y .any]∧E 11=.sl 1 SD.length (SD.map ed) .any∧E 12=x∧il 1 s4 s' x i ((kl.take i).map iE)∧s4.le s')
     (fun E _=>match E 41 with |.v (.int _ i)=>yf.length-i.toNat|_=>0) ?_ ?_
    ·exact⟨0,eW,Nat.zero_le _,fun j _ h=>absurd h (Nat.not_lt_zero _),rfl,rfl,rfl,rfl,rfl,rfl,rfl,rfl,rfl,il.nil _ _ _,MB⟩
    ·rintro E1 s5 ⟨i,x,hi,Jg,e39,e40,e41,f0,f1,f3,f6,f11,f12,hx,ly⟩ -
     by_cases et:i<yf.length
     ·have fB:((i:Nat):Int)<((yf.length:Nat):Int):=(by omega);have gC:(0:Int)<=((i:Nat):Int):=(by omega);have pB:((i:Nat):Int)<((SD.length:Nat):Int):=(by omega);have gO:=Cc i et;have Ph:=ZB i (by omega);have hbd:=xdE i et;have ir:=xhv i et;refine jB (Ai @e40 (Ai @e41 (decide_eq_true fB))) ?_;refine wK fun K2 eH=>?_;refine jE ?_;refine dX ?_;refine eH _ _ ?_;clear eH K2;refine wK fun K3 eX=>?_;refine dH ?_;generalize hQe:yf[i]=Q at *
      obtain⟨qk,qs⟩:=Q;unfold ft.cells at gO;refine ev 14 (by decide) ?_;intro K4 jm;refine jN (Ai @e39 (Ai @e41 (Ai @fB (Ai @gC @gO)))) ?_;intro o2 q2;refine jm _ _ o2 _ rfl q2 ?_;clear jm K4 q2;refine wK fun K4 jm=>?_;have Ui:GA t lf fresh ⟨qk,qs⟩ i=(lV qk&&decide (qs.length=(ff t (fE (nodeAt lf (ee t) i):Nat) fresh).length)):=rfl;have QW:=fun s=>iz (fE (nodeAt lf (ee t) i):Nat) s;obtain⟨RT,hRT⟩:∃RT,RT=ff t (fE (nodeAt lf (ee t) i):Nat) fresh:=⟨_,rfl⟩;rw[<-hRT] at QW Ui;obtain⟨q,Ye⟩:∃q,q=lV qk:=⟨_,rfl⟩;have KC:(decide (2<=(qk:Int))&&decide ((qk:Int)<=2305843009213693949))=q:=Ye.symm;have ZJ:=fun s=>SR qk s;rw[KC] at ZJ;rw[<-Ye] at Ui;refine eB T.mixed [2,14] (by kernel_rfl) ?_;intro K hK;refine jN (Ai @f0 (Ai @f3 @f11)) ?_;refine b6 (ZJ _) ?_;rintro r s6 ⟨rfl,rfl⟩;cases q with
      |false=>
       refine jR hK ?_;clear hK K;refine jE ?_;refine jA ?_;refine eF ?_;try simp only[dJ,dn]
       exact mq (hbd (by rw[Ui];rfl)) _ _ ly rfl rfl
      |true=>
       refine jN (Ai @f0 (Ai @f3 (Ai @f11 (Ai @gC (Ai @pB @Ph))))) ?_;refine b6 (QW _) ?_;rintro r s7 ⟨rfl,rfl⟩;by_cases LS:qs.length=RT.length
       ·have e1:((qs.length:Int) != (RT.length:Int))=false:=(by rw[LS];simp);refine jV @e1 hK ?_;clear hK K;refine jF ?_;refine dX ?_;refine jm _ _ ?_;clear jm K4;have fu:∀(E:Env)(s6:AS)(x':AV),E 39=.sl 2 yf.length Y .any->E 40=.v (.int .i64 yf.length)->E 41=.v (.int .i64 i)->E 0=.sl 5 t.length X .any->E 1=.v (.int .i64 lf)->E 3=.sl 1 fresh.length (fresh.map ed) .any->
          E 6=.ij [.v (.int .u64 py),.sl 1 ppa.length (ppa.map cU) .any,.sl 2 yf.length Y .any]->E 11=.sl 1 SD.length (SD.map ed) .any->E 12=x'->il 1 s4 s6 x' (i+1) ((kl.take (i+1)).map iE)->s4.le s6->K3 E s6:=by
         intro E s6 x' g39 g40 g41 g0 g1 g3 g6 g11 g12 gx gle;refine eX _ _ ?_;clear eX K3;refine jD (Ai @g41 (eK i (by omega))) ?_;refine⟨⟨i+1,x',et,?_,g39,g40,rfl,g0,g1,g3,g6,g11,g12,gx,gle⟩,?_⟩
         ·intro j hj Hk;by_cases e:j=i
          ·subst e;rw[hQe,Ui,decide_eq_true LS];rfl
          ·exact Jg j hj (by omega)
         ·simp only[e41,dY,↓reduceIte];omega
        clear eX;rcases hx with⟨rfl,lu,yS⟩|⟨tk,ek,rfl,uM,zd⟩
        ·refine wE fun K hK=>?_;simp only[↓DN,Qa,Qb,Qc,Qd,Qe,Qf,Qg,Qh,reduceCtorEq,↓reduceIte,Na,Nb,Nc,Nk,Nf,Ng,Nh,Za,Zb,Zc,TT,f12,eW,List.replicate_succ];intro tk uM;refine hK _ _ (fu _ _ (.sl 1 1 [.v (.int .u64 qk)] (.own tk 0)) e39 e40 e41 f0 f1 f3 f6 f11 rfl ?_ ?_)
         ·refine .inr ⟨tk,0,?_,by simp[AS.eT],eC ly uM⟩;rw[ir,yS];subst lu;rfl
         ·exact AS.eE ly (eC ly uM) 0
        ·refine wE fun K hK=>?_;simp only[↓DN,Qa,Qb,Qc,Qd,Qe,Qf,Qg,Qh,reduceCtorEq,↓reduceIte,Na,Nb,Nc,Nk,Nf,Ng,Nh,Za,Zb,Zc,TT,f12,uM,List.replicate_succ];refine⟨by omega,by omega,hK _ _ (fu _ _ (.sl 1 (i+1) ((kl.take i).map iE++[.v (.int .u64 qk)]) (.own tk (ek+1))) e39 e40 e41 f0 f1 f3 f6 f11 rfl ?_ ?_)⟩
         ·exact .inr ⟨tk,ek+1,by rw[ir],by simp[AS.eT],zd⟩
         ·exact AS.eE ly zd (ek+1)
       ·have e1:((qs.length:Int) != (RT.length:Int))=true:=by
         rw[bne_iff_ne];omega
        refine jV @e1 hK ?_;clear hK K;refine jE ?_;refine jA ?_;refine eF ?_;try simp only[dJ,dn]
        exact mq (hbd (by rw[Ui,decide_eq_false LS];rfl)) _ _ ly rfl rfl
     ·have fB:¬((i:Nat):Int)<((yf.length:Nat):Int):=(by omega);refine jB (Ai @e40 (Ai @e41 (decide_eq_false fB))) ?_;refine wK fun K2 eH=>?_;refine jF ?_;refine ep ?_;simp only[dJ,dn,if_true];refine hK _ _ ?_;clear hK eH K2 K;obtain rfl:i=yf.length:=(by omega);rw[if_neg (by rw[xar fun j h=>Jg j h h];simp)] at hA;rw[List.take_of_length_le (by omega)] at hx;obtain⟨out,eU⟩:∃out,out=iK t lf py kl fresh:=⟨_,rfl⟩;rw[<-eU] at hA;have hwt:=fun s=>dS.mB (.cons (.refl _) (.cons (.refl _) (.cons (.refl _) (.cons hx.dV (.cons (.refl _) .nil))))) (by
       have:=Gy hr lf hm py kl (by omega) s;rw[<-eU] at this;unfold zk eA ea at this;rw[hXe,xhu] at this;exact this)
      have VO:out.length=t.length:=(by rw[eU];unfold iK;simp only[List.length_set];exact lW ..);have hu:2*lf<out.length:=(by omega);have gO:=gL hu;have gC:(0:Int)<=((2*lf:Nat):Int):=(by omega);have fB:((2*lf:Nat):Int)<((out.length:Nat):Int):=(by omega);have heq:=fun s=>iq (Γ:=Γ) (nd out (2*lf)).parent ppa s;generalize hZ:eb cH.cells out=Z at *
      obtain⟨N,hN⟩:∃N,N=nd out (2*lf):=⟨_,rfl⟩;rw[<-hN] at gO heq hA;obtain⟨na,nb,nc,pH,nu⟩:=N;unfold cH.cells at gO;unfold dm at gO heq;simp only at heq hA;refine jS (Ai @f0 (Ai @f1 (Ai @f6 (Ai @f12 @f3)))) fun K hK=>?_;refine b6 (hwt _) ?_;rintro r s6 ⟨rfl,rfl⟩;refine jR hK ?_;clear hK K;refine wK fun K hK=>?_;refine eB T.mixed [8] (by kernel_rfl) ?_;intro K hK;refine jN (Ai @f1 (Ai @f6 (Ai (fp lf (by omega)) (Ai @gC (Ai @fB (Ai @dB (Ai @hu @gO))))))) ?_;refine b6 (heq _) ?_;rintro r s7 ⟨rfl,rfl⟩;by_cases hpe:pH=ppa
      ·rw[if_pos hpe] at hA;rw[decide_eq_true hpe];refine jR hK ?_;clear hK K;refine jF ?_;refine dX ?_;refine hK _ _ ?_;clear hK K;refine jA ?_;refine jI ?_;rw[hA];refine⟨_,_,AV.dV.refl _,ly,?_,rfl⟩;rw[hZ]
      ·rw[if_neg hpe] at hA;rw[decide_eq_false hpe];refine jR hK ?_;clear hK K;refine jE ?_;refine jA ?_;refine eF ?_;try simp only[dJ,dn]
       exact mq hA _ _ ly rfl rfl
  ·have e1:((yf.length:Int) != (SD.length:Int))=true:=by
    rw[Ni,bne_iff_ne];omega
   rw[if_pos (.inl hl)] at hA;refine jB @e1 ?_;refine jE ?_;refine jA ?_;refine eF ?_;try simp only[dJ,dn]
   exact mq hA _ _ (AS.le.refl _) rfl rfl
 ·have e0:(qn t leaf != 0)=true:=(by simp[he]);refine jB @e0 ?_;refine jE ?_;refine jA ?_;refine jI ?_;unfold sA at hA;rw[if_pos he] at hA;rw[hA];exact⟨_,_,AV.gJ wo (AV.dV.refl _),AS.le.refl _,rfl,rfl⟩
theorem zr(t:List cH)(oi:eJ t)(skip:List Int)(QD:skip.length<=2^61)(n:Nat)(hn:n<t.length)(s:AS):
    aI prog Γ 26 [eA t,.v (.int .i64 n),ea skip .any] s (ea (ff t n skip) .any):=by
  obtain⟨lA,oq⟩:=oi.span hn;have hT:ff t n skip=lU t skip (lv n) n:=(by unfold ff;rw[if_pos ⟨oM,oM,oi⟩,aB]);refine dS.settle (x8 t oi skip QD (lv n) n rfl oq lA s) ?_;rintro r s1 ⟨hb,hle⟩;refine⟨s,_,(gj.dV hb.dV).trans (gj.le _ hle),?_,rfl⟩;rw[hT];simp only[a7,aL];rfl
theorem EL(t:List cH)(ht:iD t)(oi:eJ t)(n:Nat)(hn:n<t.length)(s:AS):
    aI prog Γ 122 [eA t,.v (.int .i64 n)] s (.v (.string ⟨(sW t n).toArray⟩)):=by
  obtain⟨lA,oq⟩:=oi.span hn;have hT:sW t n=jj t (lv n) n:=(by unfold sW;rw[if_pos ⟨oM,oM,oi⟩,aB]);rw[hT];exact Cn t ht oi (lv n) n rfl oq lA s
def pC(t:List cH)(leaf:Nat)(keys:List Nat)(fresh:List Int):Nat->List cH×List UInt8
 |0=>(t,[])
 |i+1=>
  let j:=(dR leaf (ee t)).length-1-i
  let up:=(dR leaf (ee t)).getD j 0
  let p:=pC t leaf keys fresh i
  let b:cH:=⟨2,[],keys.getD j 0,p.2,DZ t fresh up⟩
  (p.1.set up b,Sha.sum (qv b (sW t (fE (nodeAt leaf (ee t) j)))))
theorem zg(t:List cH)(leaf:Nat)(keys:List Nat)(fresh:List Int):∀i,(pC t leaf keys fresh i).1.length=t.length
 |0=>rfl
 |i+1=>by simp only[pC,b8];exact zg t leaf keys fresh i
theorem Uj(t:List cH)(leaf:Nat)(keys:List Nat)(fresh:List Int):∀i,(pC t leaf keys fresh i).2.length<=32
 |0=>by simp[pC]
 |i+1=>by simp only[pC];exact Nat.le_of_eq (Sha.im _)
def r7(t:List cH)(leaf key:Nat)(keys:List Nat)(fresh:List Int):List cH:=
 let p:=pC t leaf keys fresh (dR leaf (ee t)).length
 p.1.set (2*leaf) {nd p.1 (2*leaf) with key:=key,parent:=p.2}
theorem Bd(jg:Γ 0=jZ Sha.H0)(mC:Γ 1=Sha.K.map wV)(t:List cH)(ht:iD t)(LV:t.length<=2^30)(hr:eJ t)(leaf:Nat)(hm:gE t leaf)
  (key:Nat) (keys:List Nat) (hk:keys.length=(dR leaf (ee t)).length) (Yb:∀k∈keys,k<2^64) (fresh:List Int) (hf:fresh.length<=2^40) (s:AS):
  dS prog Γ 59 [eA t,.v (.int .i64 leaf),.v (.int .u64 key),zk keys,ea fresh .any] s (fun r s'=>EJ s s' r (r7 t leaf key keys fresh)):=by
 refine xH func59 ntmps59 results59 ?_;have xaj:ee t≠0:=hr.1;obtain⟨fN,nD⟩:Fit (ee t)∧t.length=2*ee t-1:=by
  rcases fA (t:=t) with h|h
  ·exact absurd h xaj
  ·exact h
 have uK:=fN.le;have vK:leaf<ee t:=by
  have:=hm.2.1;omega
 have Cu:=kV fN vK;have jf:=fun s=>pU (Γ:=Γ) t ht.1 s;have oA:=fun s=>pP (Γ:=Γ) leaf (ee t) fN vK s;have h0:t.length≠0:=oM;have pL:(eb cH.cells t).all AV.one=true:=by
  rw[List.all_eq_true];intro c hc;simp only[eb,List.mem_flatten,bJ] at hc;obtain⟨_,⟨n,-,rfl⟩,hc⟩:=hc;simp only[cH.cells,bZ,List.not_mem_nil,or_false] at hc;rcases hc with rfl|rfl|rfl|rfl|rfl<;>rfl
 unfold eA zk ea at *
 refine jA ?_;refine Bw rfl dM ?_;intro ops;refine jM ?_;refine⟨_,fun G a w hr=>nR (n:=0) (m:=t.length) (cs:=[]) (ds:=eb cH.cells t) (e:=54) rfl underlying22 (by simp only[↓DN,Qa,Qb,Qc,Qd,Qe,Qf,Qg,Qh,seval,TT];try rfl) T.z54 (by rw[T.HQ];decide) (by rw[T.HQ];rfl) (by rw[T.HQ];simp only[↓DN,Qa,Qb,Qc,Qd,Qe,Qf,Qg,Qh,seval,TT,nL,ef,dY,Nc,↓reduceIte]) h0 (by rw[T.b54];omega) oM pL (by rw[T.HQ];exact .inl ⟨rfl,rfl,.inr (.inr rfl)⟩) hr.eval hr.st,?_⟩;rw[T.HQ];rintro r s2 ⟨O,cap,rest,rfl,mV,I6,GJ,sr,rfl⟩;have Q5:s.dD O=none:=by
  rcases sr with h|⟨_,h⟩
  ·exact h
  ·simp[ef,dY] at h
 refine jM ?_;rw[a7] at *
 have hO:=AS.bG s O (eb cH.cells t++rest);have uL:s.le (s.set O (eb cH.cells t++rest)):=AS.dW (AS.le.refl s) Q5 _;generalize s.set O (eb cH.cells t++rest)=s1 at hO uL⊢;refine jK (jf _) ?_;rintro s2 rfl;refine jK (oA _) ?_;rintro s3 rfl;refine jA ?_;have UU:(ew (dR leaf (ee t))).length=(dR leaf (ee t)).length:=fh _;have hPg:∀j,j<(dR leaf (ee t)).length->(aG 1 (aJ j ((ew (dR leaf (ee t))).map ed)))[0]? =some (AV.v (.int .i64 ((dR leaf (ee t)).getD j 0:Nat))):=by
  intro j hj;simp[aD,ew,bj,hj,ed]
 generalize ZE:ew (dR leaf (ee t))=PI at *
 have e0:gR .i64 (PI.length:Int) 1=(((dR leaf (ee t)).length:Nat):Int)-1:=(by rw[zu oM oM,UU]);refine wK fun K hK=>jB @e0 ?_;refine dH<|dU (fun E s'=>∃i:Nat,i<=(dR leaf (ee t)).length∧E 15=.v (.int .i64 ((((dR leaf (ee t)).length:Nat):Int)-1-i))∧E 11=.jd O 0 5 t.length cap∧E 12=.v (.int .i64 (ee t))∧E 13=.sl 1 PI.length (PI.map ed) .any∧E 14=.v (.string ⟨(pC t leaf keys fresh i).2.toArray⟩)∧
   E 0=.sl 5 t.length (eb cH.cells t) .any∧E 1=.v (.int .i64 leaf)∧E 2=.v (.int .u64 key)∧E 3=.sl 1 keys.length (keys.map iE) .any∧E 4=.sl 1 fresh.length (fresh.map ed) .any∧s'.dD O=some (eb cH.cells (pC t leaf keys fresh i).1++rest)∧s.le s')
  (fun E _=>match E 15 with |.v (.int _ i)=>(i+1).toNat|_=>0) ?_ ?_
 ·exact⟨0,aA _,by simp only[dY,Nc,↓reduceIte];congr 2;omega,rfl,rfl,rfl,rfl,rfl,rfl,rfl,rfl,rfl,hO,uL⟩
 ·rintro E1 s4 ⟨i,hi,g15,g11,g12,g13,g14,g0,g1,g2,g3,g4,qO,ie⟩ -
  refine wK fun K2 eH=>?_;by_cases et:i<(dR leaf (ee t)).length
  ·obtain⟨j,hj⟩:∃j,j=(dR leaf (ee t)).length-1-i:=⟨_,rfl⟩;have P8:j<(dR leaf (ee t)).length:=oM;have Q6:(((dR leaf (ee t)).length:Nat):Int)-1-(i:Int)=(j:Int):=oM;rw[Q6] at g15;have gC:decide ((0:Int)<=((j:Nat):Int))=true:=dT oM;refine jB (Ai @g15 @gC) ?_;refine ue ?_;refine eH _ _<|nF fun K3 eX=>?_;obtain⟨par,FB⟩:∃par,par=(pC t leaf keys fresh i).2:=⟨_,rfl⟩;obtain⟨TZ,hTZ⟩:∃TZ,TZ=(pC t leaf keys fresh i).1:=⟨_,rfl⟩;rw[<-FB] at g14;rw[<-hTZ] at qO;obtain⟨up,IU⟩:∃up,up=(dR leaf (ee t)).getD j 0:=⟨_,rfl⟩;have UT:=hPg j P8;rw[<-IU] at UT;have hkj:j<keys.length:=oM;have pR:(aG 1 (aJ j (keys.map iE)))[0]? =some (AV.v (.int .u64 (keys.getD j 0:Nat))):=by
    simp[aD,bj,hkj,iE]
   have xas:(0:Int)<=((j:Nat):Int):=oM;have fB:((j:Nat):Int)<(keys.length:Int):=oM;have xdF:((j:Nat):Int)<(PI.length:Int):=oM;refine jS (Ai @g15 (Ai @g3 (Ai @g14 (Ai @xas (Ai @fB @pR))))) fun K hK=>?_;intro ob sr;refine hK _ _ ?_;clear hK K;refine qB (AS.oK (cs':=[.v (.int .i64 2),dm [] .any,.v (.int .u64 (keys.getD j 0:Nat)),dm par .any,eW]) (AS.bG _ _ _) (.cons (.refl _) (.cons AV.eh (.cons (.refl _) (.cons AV.fc (.cons (.refl _) .nil)))))) ?_;rw[AS.set_set];have Z2:=AS.bG s4 ob [.v (.int .i64 2),dm [] .any,.v (.int .u64 (keys.getD j 0:Nat)),dm par .any,eW];have xdG:s4.le (s4.set ob [.v (.int .i64 2),dm [] .any,.v (.int .u64 (keys.getD j 0:Nat)),dm par .any,eW]):=AS.dW (AS.le.refl _) sr _;generalize s4.set ob [.v (.int .i64 2),dm [] .any,.v (.int .u64 (keys.getD j 0:Nat)),dm par .any,eW]=s5 at Z2 xdG⊢;obtain⟨Q,hQ⟩:∃Q:Nat->Bool,Q=fun m=>decide (((m:Nat):Int)∈fresh)&&(lz up m&&decide (gE t m)):=⟨_,rfl⟩;have hU:∀m,((aq (m+1)).filter Q).map (fun k=>((k:Nat):Int))=((aq m).filter Q).map (fun k=>((k:Nat):Int))++(if Q m=true then[((m:Nat):Int)] else[]):=by
    intro m;rw[List.range_succ,List.filter_append,aF];congr 1;by_cases h:Q m=true<;>simp[h]
   have hUf:((aq (ee t)).filter Q).map (fun k=>((k:Nat):Int))=DZ t fresh up:=by
    unfold DZ H9;rw[List.filter_map,hQ];rfl
   have xdH:=fun m s=>GW (Γ:=Γ) fresh m oM s;have Pl:=fun m s=>A3 (Γ:=Γ) up m s;have rI:=fun m s=>kZ (Γ:=Γ) t ht.1 m s;unfold eA at rI;unfold ea at xdH;refine Jc fun K hK=>?_;refine dU (fun E s'=>∃(m:Nat)(x:AV)(acc:List Int),m<=ee t∧acc=((aq m).filter Q).map (fun k=>((k:Nat):Int))∧E 17=.v (.int .i64 m)∧E 12=.v (.int .i64 (ee t))∧E 11=.jd O 0 5 t.length cap∧E 13=.sl 1 PI.length (PI.map ed) .any∧E 15=.v (.int .i64 j)∧E 16=.ptr ob 0∧
     E 0=.sl 5 t.length (eb cH.cells t) .any∧E 1=.v (.int .i64 leaf)∧E 2=.v (.int .u64 key)∧E 3=.sl 1 keys.length (keys.map iE) .any∧E 4=.sl 1 fresh.length (fresh.map ed) .any∧
     s'.dD ob=some [.v (.int .i64 2),dm [] .any,.v (.int .u64 (keys.getD j 0:Nat)),dm par .any,x]∧il 1 s4 s' x acc.length (acc.map ed)∧s4.le s')
    (fun E _=>match E 17 with |.v (.int _ i)=>ee t-i.toNat|_=>0) ?_ ?_
   ·exact⟨0,eW,[],aA _,rfl,rfl,g12,g11,g13,g15,rfl,g0,g1,g2,g3,g4,Z2,il.nil _ _ _,xdG⟩
   ·rintro E2 s6 ⟨m,x,acc,JC,Lp,LX,D2,L0,Jm,EV,WY,k0,k1,k2,k3,k4,uP,hx,mY⟩ -
    refine wK fun K5 mE=>?_;by_cases vP:m<ee t
    ·refine jB (Ai @LX (Ai @D2 (dT (show((m:Nat):Int)<((ee t:Nat):Int) by omega)))) ?_;refine ue ?_;refine mE _ _ ?_;clear mE K5;refine nF fun K6 ll=>?_;have gN:=hU m;rw[<-Lp] at gN;have hal:acc.length<=2^40:=by
      rw[Lp,aj];have:=List.length_filter_le Q (aq m);rw[List.length_range] at this;omega
     have hQm:Q m=(decide (((m:Nat):Int)∈fresh)&&(lz up m&&decide (gE t m))):=(by rw[hQ]);have fu:∀(E:Env)(s7:AS)(x':AV)(Bc:List Int),Bc=((aq (m+1)).filter Q).map (fun k=>((k:Nat):Int))->E 17=.v (.int .i64 m)->E 12=.v (.int .i64 (ee t))->E 11=.jd O 0 5 t.length cap->E 13=.sl 1 PI.length (PI.map ed) .any->E 15=.v (.int .i64 j)->E 16=.ptr ob 0->
       E 0=.sl 5 t.length (eb cH.cells t) .any->E 1=.v (.int .i64 leaf)->E 2=.v (.int .u64 key)->E 3=.sl 1 keys.length (keys.map iE) .any->E 4=.sl 1 fresh.length (fresh.map ed) .any->
       s7.dD ob=some [.v (.int .i64 2),dm [] .any,.v (.int .u64 (keys.getD j 0:Nat)),dm par .any,x']->il 1 s4 s7 x' Bc.length (Bc.map ed)->s4.le s7->K6 E s7:=by
      intro E s7 x' Bc ha f17 f12 f11 f13 f15 f16 f0 f1 f2 f3 f4 xao fx Dx;refine ll _ _ ?_;clear ll K6;refine jD (Ai @f17 (eK m oM)) ?_;refine⟨⟨m+1,x',Bc,vP,ha,rfl,f12,f11,f13,f15,f16,f0,f1,f2,f3,f4,xao,fx,Dx⟩,?_⟩;simp only[LX,dY,↓reduceIte];omega
     clear ll;have uS:Q m=false->acc=((aq (m+1)).filter Q).map (fun k=>((k:Nat):Int)):=(fun h=>by rw[gN,h];simp);have Eu:Q m=true->acc++[((m:Nat):Int)]=((aq (m+1)).filter Q).map (fun k=>((k:Nat):Int)):=(fun h=>by rw[gN,h];simp);obtain⟨b1,Cw⟩:∃b,b=decide (((m:Nat):Int)∈fresh):=⟨_,rfl⟩;obtain⟨b2,LI⟩:∃b,b=lz up m:=⟨_,rfl⟩;obtain⟨b3,UI⟩:∃b,b=decide (gE t m):=⟨_,rfl⟩;have hh:=fun s=>xdH m s;have ES:=fun s=>Pl m s;have hmm:=fun s=>rI m s;rw[<-Cw] at hh;rw[<-LI] at ES;rw[<-UI] at hmm;rw[<-Cw,<-LI,<-UI] at hQm;refine jS (Ai @k4 @LX) fun K hK=>?_;refine b6 (hh _) ?_;rintro r s7 ⟨rfl,rfl⟩;cases b1 with
     |false=>
      refine jR hK ?_;clear hK K;refine gW ?_;simp only[dn,dJ,if_true,if_false];exact fu _ _ x acc (uS (by rw[hQm];rfl)) LX D2 L0 Jm EV WY k0 k1 k2 k3 k4 uP hx mY
     |true=>
      refine jN (Ai @Jm (Ai @EV (Ai @LX (Ai @xas (Ai @xdF @UT))))) ?_;refine b6 (ES _) ?_;rintro r s8 ⟨rfl,rfl⟩;cases b2 with
      |false=>
       refine jR hK ?_;clear hK K;refine gW ?_;simp only[dn,dJ,if_true,if_false];exact fu _ _ x acc (uS (by rw[hQm];rfl)) LX D2 L0 Jm EV WY k0 k1 k2 k3 k4 uP hx mY
      |true=>
       simp only[↓DM,eZ,DX,↓DN,Qa,Qb,Qc,Qd,Qe,Qf,Qg,Qh,seval,TT,k0,LX];refine b6 (hmm _) ?_;rintro r s9 ⟨rfl,rfl⟩;cases b3 with
       |false=>
        refine jR hK ?_;clear hK K;refine gW ?_;simp only[dn,dJ,if_true,if_false];exact fu _ _ x acc (uS (by rw[hQm];rfl)) LX D2 L0 Jm EV WY k0 k1 k2 k3 k4 uP hx mY
       |true=>
        refine jR hK ?_;clear hK K;refine jE ?_;have hy:=Eu (by rw[hQm];rfl);rcases hx with⟨rfl,lu,yS⟩|⟨tk,ek,rfl,ir,zd⟩
        ·unfold eW at uP;refine wE fun K hK=>?_;simp only[↓DN,Qa,Qb,Qc,Qd,Qe,Qf,Qg,Qh,seval,TT,WY,LX,uP,av];intro tk ir;refine hK _ _ (fu _ _ (.sl 1 1 [.v (.int .i64 m)] (.own tk 0)) _ hy LX D2 L0 Jm EV WY k0 k1 k2 k3 k4 ?_ ?_ ?_)
         ·rw[AS.bG];rfl
         ·obtain rfl:acc=[]:=al lu;exact .inr ⟨tk,0,rfl,by simp[AS.eT,AS.set],eC mY ir⟩
         ·exact AS.dW (AS.eE mY (eC mY ir) 0) sr _
        ·refine wE fun K hK=>?_;simp only[↓DN,Qa,Qb,Qc,Qd,Qe,Qf,Qg,Qh,seval,TT,WY,LX,uP,ir,av];refine⟨oM,oM,hK _ _ (fu _ _ (.sl 1 (acc.length+1) (acc.map ed++[.v (.int .i64 m)]) (.own tk (ek+1))) _ hy LX D2 L0 Jm EV WY k0 k1 k2 k3 k4 ?_ ?_ ?_)⟩
         ·rw[AS.bG];rfl
         ·exact .inr ⟨tk,ek+1,by rw[aF,ai];rfl,by simp[AS.eT,AS.set],zd⟩
         ·exact AS.dW (AS.eE mY zd (ek+1)) sr _
    ·obtain rfl:m=ee t:=oM;rw[hUf] at Lp;refine jB (Ai @LX (Ai @D2 (dF (show ¬((ee t:Nat):Int)<((ee t:Nat):Int) by omega)))) ?_;refine sI ?_;simp only[dJ,dn,if_true];refine hK _ _ ?_;clear hK mE K5 K;obtain⟨b,hb⟩:∃b:cH,b=⟨2,[],keys.getD j 0,par,acc⟩:=⟨_,rfl⟩;refine qB (AS.oK (cs':=b.cells) uP (by rw[hb];exact .cons (.refl _) (.cons (.refl _) (.cons (.refl _) (.cons (.refl _) (.cons hx.dV .nil)))))) ?_;have O2:=AS.bG s6 ob b.cells;have sw:s4.le (s6.set ob b.cells):=AS.dW mY sr _;generalize s6.set ob b.cells=s7 at O2 sw⊢;have rO:=sw.dD _ _ qO;have Uf:TZ.length=t.length:=(by rw[hTZ];exact zg ..);have xap:up<TZ.length:=by
      have h1:up∈dR leaf (ee t):=by
       rw[IU];simp[bj,P8]
      have:=(vv fN vK up h1).1;omega
     have S7:(0:Int)<=((up:Nat):Int):=oM;have Dh:((up:Nat):Int)<(t.length:Int):=oM;have rM:=zM (k:=5) (fun n=>oS n) xap b rest;have P7:(eb cH.cells TZ++rest).length=TZ.length*5+rest.length:=(by rw[ai,Go.AM.gU oS]);generalize eb cH.cells TZ++rest=R at rO rM P7;have hbc:b.cells=[.v (.int .i64 2),dm [] .any,.v (.int .u64 (keys.getD j 0:Nat)),dm par .any,ea acc .any]:=(by rw[hb];rfl);rw[hbc] at rM O2;simp only[eQ] at rM;unfold dm ea at O2 rM;simp only[aW,bF] at O2 rM;have nOb:¬ob=O:=(fun e=>by rw[e,qO] at sr;cases sr);refine iT T.mixed [(ob,[.v (.int .i64 2),.sl 1 0 [] .any,.v (.int .u64 (keys.getD j 0:Nat)),.sl 1 par.length (par.map cU) .any,.sl 1 acc.length (acc.map ed) .any])] [7] [5] [] kM (by simp only[dZ,ec,and_true];simp[AS.set,dY,O2]) ?_;intro K hK;simp only[↓eN,↓eD,gY,gS,eg,ej,dZ,ec,bd,bn,bz,bE,aK,cp,cu,cC,bN,↓DN,Qa,Qb,Qc,Qd,Qe,Qf,Qg,Qh,seval,TT,L0,Jm,EV,WY,xas,xdF,UT,S7,Dh,O2,rO,nOb];refine⟨oM,hK _ _ ?_⟩;clear hK K;rw[rM];have Ug:s.le (s7.set O (eb cH.cells (TZ.set up b)++rest)):=AS.dW (ie.trans sw) Q5 _;have uO:=AS.bG s7 O (eb cH.cells (TZ.set up b)++rest);have ub:(s7.set O (eb cH.cells (TZ.set up b)++rest)).dD ob=_:=(AS.cO _ nOb _).trans O2;generalize s7.set O (eb cH.cells (TZ.set up b)++rest)=s8 at Ug uO ub⊢;have xat:=fun s=>uw (Γ:=Γ) leaf (ee t) j fN vK P8 s;have QV:=(we fN (rn fN vK P8).1 (rn fN vK P8).2.1).2.2.2.2;have BU:=fun s=>EL (Γ:=Γ) t ht hr (fE (nodeAt leaf (ee t) j)) oM s;obtain⟨HH,hHH⟩:∃HH,HH=sW t (fE (nodeAt leaf (ee t) j):Nat):=⟨_,rfl⟩;have hHl:HH.length<=2^30:=by
      rw[hHH];unfold sW;split
      ·exact cB (qE t _ _) oM
      ·simp
     rw[<-hHH] at BU;have xdJ:par.length<=32:=(by rw[FB];exact Uj ..);have uC:=fun s=>wv (Γ:=Γ) b (by rw[hb];simp only[bj,ag hkj,Option.getD_some];exact Yb _ (ba hkj)) (by rw[hb];exact xdJ) HH hHl s;rw[hbc] at uC;unfold eA at BU;unfold dm ea at uC;simp only[aW,bF] at uC;refine gl T.mixed [(ob,[.v (.int .i64 2),.sl 1 0 [] .any,.v (.int .u64 (keys.getD j 0:Nat)),.sl 1 par.length (par.map cU) .any,.sl 1 acc.length (acc.map ed) .any])] [5,6,7] [0] [] kM (by simp only[dZ,ec,and_true];simp[AS.set,dY,ub]) ?_;intro K hK;simp only[↓eN,↓eD,gY,gS,eg,ej,dZ,ec,bd,bn,bz,bE,aK,cp,cu,cC,bN,↓DN,Qa,Qb,Qc,Qd,Qe,Qf,Qg,Qh,seval,TT,WY,k0,k1,D2,EV,ub];refine b6 (xat _) ?_;rintro r s9 ⟨rfl,rfl⟩;simp only[↓fM,↓fi,eZ,↓eN,↓eD,gY,gS,eg,ej,dZ,ec,bd,bn,DX,aK,↓DN,Qa,Qb,Qc,Qd,Qe,Qf,Qg,Qh,seval,TT,ub];refine b6 (BU _) ?_;rintro r Sj ⟨rfl,rfl⟩;simp only[↓fM,↓fi,eZ,↓eN,↓eD,gY,gS,eg,ej,dZ,ec,bd,bn,DX,aK,↓DN,Qa,Qb,Qc,Qd,Qe,Qf,Qg,Qh,seval,TT,ub];refine b6 (uC _) ?_;rintro r Sv ⟨rfl,rfl⟩;simp only[↓fM,↓fi,eZ,↓eN,↓eD,gY,gS,eg,ej,dZ,ec,bd,bn,DX,aK,↓DN,Qa,Qb,Qc,Qd,Qe,Qf,Qg,Qh,seval,TT,ub];refine hK _ _ ?_;clear hK K;simp only[dn,dJ,if_true,if_false];refine eX _ _<|jD (Ai @EV (zu (k:=(j:Int)) oM oM)) ?_;refine⟨⟨i+1,et,?_,L0,D2,Jm,?_,k0,k1,k2,k3,k4,?_,Ug⟩,?_⟩
     ·simp only[dY,Nc,↓reduceIte];rw[show((j:Nat):Int)-1=(((dR leaf (ee t)).length:Nat):Int)-1-((i+1:Nat):Int) by omega]
     ·simp only[dY,Nc,↓reduceIte];rw[hHH,hb,Lp,FB,IU,hj];rfl
     ·rw[uO,hb,Lp,FB,IU,hTZ,hj];rfl
     ·simp only[dY,g15,↓reduceIte,Nc];omega
  ·obtain rfl:i=(dR leaf (ee t)).length:=oM;have gC:decide ((0:Int)<=(((dR leaf (ee t)).length:Nat):Int)-1-(((dR leaf (ee t)).length:Nat):Int))=false:=dF oM;refine jB (Ai @g15 @gC) ?_;refine sI ?_;simp only[dJ,dn,if_true];refine hK _ _ ?_;have Uf:=zg t leaf keys fresh (dR leaf (ee t)).length;obtain⟨W,hW⟩:∃W,W=r7 t leaf key keys fresh:=⟨_,rfl⟩;rw[<-hW];unfold r7 at hW;simp only at hW;generalize (pC t leaf keys fresh (dR leaf (ee t)).length).2=par at *
   generalize (pC t leaf keys fresh (dR leaf (ee t)).length).1=TZ at *
   have hu:2*leaf<TZ.length:=oM;have rM:=EK hu key par rest;have P7:(eb cH.cells TZ++rest).length=TZ.length*5+rest.length:=(by rw[ai,Go.AM.gU oS]);rw[<-hW] at rM;have Kd:W.length=t.length:=(by rw[hW,b8,Uf]);generalize eb cH.cells TZ++rest=R at qO rM P7;have rK:(0:Int)<=((2*leaf:Nat):Int):=oM;have fB:((2*leaf:Nat):Int)<(t.length:Int):=oM;have WX:2*leaf<t.length:=oM;refine jS (Ai @g11 (Ai @g1 (Ai @g2 (Ai (fp leaf oM) (Ai @rK (Ai @fB (Ai @dB (Ai @WX @qO)))))))) fun K hK=>?_;refine⟨oM,hK _ _ ?_⟩;have uO:=AS.bG s4 O (R.set (2*leaf*5+2) (.v (.int .u64 key)));have ly:s.le (s4.set O (R.set (2*leaf*5+2) (.v (.int .u64 key)))):=AS.dW ie Q5 _;generalize s4.set O (R.set (2*leaf*5+2) (.v (.int .u64 key)))=s5 at uO ly⊢;refine jS (Ai @g11 (Ai @g1 (Ai @g14 (Ai (fp leaf oM) (Ai @rK (Ai @fB (Ai @dB (Ai @WX @uO)))))))) fun K hK=>?_;refine⟨by rw[b8];omega,hK _ _ ?_⟩;have hwk:=Qt (R:=R.set (2*leaf*5+2) (.v (.int .u64 key))) (off:=2*leaf*5+3) (a:=[.sl 1 par.length (par.map cU) .no]) (b:=[dm par .any]) rfl (by rw[b8];simp;omega) (.cons AV.fc .nil);simp only[eQ] at hwk;refine qB (AS.Qu hwk) ?_;rw[rM];have vO:=AS.bG s5 O (eb cH.cells W++rest);have mY:s.le (s5.set O (eb cH.cells W++rest)):=AS.dW ly Q5 _;generalize s5.set O (eb cH.cells W++rest)=s6 at vO mY⊢;refine jB @g11 ?_;refine jI ?_;exact jW ⟨O,cap,rest,by rw[Kd],vO,by rw[Kd];exact mV,Q5,mY⟩
theorem Cg(jg:Γ 0=jZ Sha.H0)(mC:Γ 1=Sha.K.map wV)(t:List cH)(ht:iD t)(LV:t.length<=2^30)(hr:eJ t)(leaf:Nat)(hm:gE t leaf)
  (key:Nat) (keys:List Nat) (hk:keys.length=(dR leaf (ee t)).length) (Yb:∀k∈keys,k<2^64) (fresh:List Int) (hf:fresh.length<=2^40) (s:AS):
  aI prog Γ 59 [eA t,.v (.int .i64 leaf),.v (.int .u64 key),zk keys,ea fresh .any] s (eA (r7 t leaf key keys fresh)):=by
 refine dS.forget (dS.settle (Bd jg mC t ht LV hr leaf hm key keys hk Yb fresh hf s) ?_ (R:=fun r s'=>r=eA (r7 t leaf key keys fresh)∧s.le s')) fun r s' ⟨h1,h2⟩=>⟨s,h2,h1,rfl⟩;intro r s' h;obtain⟨s2,h1,h2⟩:=EJ.settle (Γ:=Γ) h;exact⟨_,_,h1,rfl,h2⟩
def filled(n k:Nat)(c:UInt8):List UInt8:=ad k c++ad (n-k) 0
end Go.Proofs.YtbiefppedlodiaaGreatDoor
