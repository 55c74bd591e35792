/- Contracts of functions, each walked once; each theorem states its conditions. -/
import Derived.Test.YtbiefppedlodiaaGreatDoorAMp6
import Derived.Test.YtbiefppedlodiaaGreatDoorW1
import Derived.Test.YtbiefppedlodiaaGreatDoorW9
import Derived.Test.YtbiefppedlodiaaGreatDoorW7
import Derived.Test.YtbiefppedlodiaaGreatDoorW8
import Derived.Test.YtbiefppedlodiaaGreatDoorAMp5
import Derived.Test.YtbiefppedlodiaaGreatDoorW6
import Derived.Test.YtbiefppedlodiaaGreatDoorW4
import Derived.Test.YtbiefppedlodiaaGreatDoorW2
import Derived.Test.YtbiefppedlodiaaGreatDoorAMp7
set_option linter.unusedSimpArgs false
set_option linter.unusedVariables false
open Nat renaming reduceLT → Na, reduceLeDiff → Nb, reduceEqDiff → Nc, reduceAdd → Nk, reduceMul → Nf, reducePow → Ng, reduceSub → Nh, reduceBEq → Nz
open Int renaming reduceLT → Za, reduceLE → Zb, reduceToNat → Zc
open And renaming intro → Ai
open Go.AM renaming ashift → Qa, aconv → Qb, aindexAddr → Qc, aindex → Qd, aslice → Qe, abuiltin → Qf, awp_reg_seq → wS, awp_reg_end → wE, awp_seq_k → wK, awp_cond_k → wC
open Go.AM.AV renaming cells → Qg, one → Qh
set_option maxRecDepth 100000
set_option maxHeartbeats 8000000
namespace Go.Proofs.YtbiefppedlodiaaGreatDoor
open Go Go.AM Go.Proofs Tryz
variable{Γ:Nat→List AV}
theorem Bh(info:List UInt8)(h:info.length≤60000):Kdf.fits Hpke.tm info 48=true:=by
 simp[Kdf.fits,Hpke.tm];omega
theorem vI(info:List UInt8)(h:info.length≤60000):Kdf.fits Hpke.yl info 16=true:=by
 simp[Kdf.fits,Hpke.yl];omega
theorem Ld(s info:List UInt8)(h:info.length≤60000):(Hpke.hk s info).length=48:=by
 rw[Hpke.hk,Kdf.label,Bh info h,if_pos rfl];exact Kdf.gI _ _ _
theorem Le(s info:List UInt8)(h:info.length≤60000):(Hpke.hn s info).length=16:=by
 rw[Hpke.hn,Kdf.label,vI info h,if_pos rfl];exact Kdf.gI _ _ _
theorem OD(a b c:Nat):(Hpke.sec a b c).length=32:=Mac.mF _ _
theorem Lf(a b c:Nat):Mac.tag [] ([be 8 a,be 8 b,be 8 c].flatten)=Hpke.sec a b c:=by
 rw[Hpke.sec];simp
theorem vJ(dO:Γ 0=ef Sha.H0)(hG:Γ 1=Sha.K.map wV)(a b c:Nat)(info:List UInt8)(hb:b<2^64)(hc:c<2^64)(hi:info.length≤60000)(s:AS):
  aj prog Γ 153 [al (be 8 a) .any,.v (.int .u64 b),.v (.int .u64 c),al info .any] s
   (fun r s'=>r=.eo [al (Hpke.hk (Hpke.sec a b c) info) .any,al (Hpke.hn (Hpke.sec a b c) info) .any,.v (.bool true)]∧s'=s):=by
 refine aa func153 rfl ntmps153 results153 (by simp) ?_;have X7:∀x:AV,List.replicate 3 x=[x,x,x]:=fun _=>rfl;have Df:=fun s=>kU (Γ:=Γ) [be 8 a,be 8 b,be 8 c] .new (by simp) (by simp) s;have hex:=fun s=>zS (Γ:=Γ) dO hG [] ([be 8 a,be 8 b,be 8 c].flatten) (by simp) (by simp) s;rw[Lf] at hex;have pR:([be 8 a,be 8 b,be 8 c].flatten).length=24:=(by simp);have tn:=OD a b c;have h1:=fun s=>jx (Γ:=Γ) dO hG (Hpke.sec a b c) Hpke.tm info 48 (by omega) (by decide) (by omega) (by decide) s;have h2:=fun s=>jx (Γ:=Γ) dO hG (Hpke.sec a b c) Hpke.yl info 16 (by omega) (by decide) (by omega) (by decide) s;rw[Bh info hi] at h1;rw[vI info hi] at h2;change ∀s,aj _ _ _ _ s (fun r s'=>r=.eo [al (Hpke.hk (Hpke.sec a b c) info) .any,_]∧s'=s) at h1;change ∀s,aj _ _ _ _ s (fun r s'=>r=.eo [al (Hpke.hn (Hpke.sec a b c) info) .any,_]∧s'=s) at h2;generalize [be 8 a,be 8 b,be 8 c].flatten=F at *
 generalize Hpke.hk (Hpke.sec a b c) info=k at *
 generalize Hpke.hn (Hpke.sec a b c) info=n at *
 generalize Hpke.sec a b c=S at *
 refine jA ?_;refine jQ fun K hK=>?_;refine ad (kx b hb _) ?_;rintro r s1 ⟨rfl,rfl⟩;refine jM ?_;refine ad (kx c hc _) ?_;rintro r s2 ⟨rfl,rfl⟩;refine jN @X7 ?_;refine ad (Df _) ?_;intro r s3 bu;obtain⟨t,e,rfl⟩:=cn bu (by rw[←List.length_pos_iff,pR];decide);have gQ:=bu.1;clear bu;refine jM ?_;refine ad (aj.gL (fe.aB.cons (AV.aN (sz:=1)) (fe.aB.cons (AV.bQ) fe.aB.nil)) (hex _)) ?_;intro r s4 bu;obtain⟨t4,e4,rfl⟩:=cn bu (by rw[←List.length_pos_iff,tn];decide);have eM:=gQ.trans bu.1;clear bu;refine jR hK ?_;clear hK K;refine jK (aj.gL (fe.aB.cons (AV.bQ) (fe.aB.refl _)) (h1 _)) ?_;rintro s5 rfl;refine jK (aj.gL (fe.aB.cons (AV.bQ) (fe.aB.refl _)) (h2 _)) ?_;rintro s6 rfl;refine jA ?_;refine jI ?_;exact⟨_,_,AV.aB.refl _,eM,rfl,rfl⟩
def vK(n:Nat):Prop:=2≤n∧n≤2305843009213693949
instance(n:Nat):Decidable (vK n):=by unfold vK;infer_instance
theorem Eh{n:Nat}(h:vK n):(decide (2≤(n:Int))&&decide ((n:Int)≤2305843009213693949))=true:=by
 obtain⟨h1,h2⟩:=h;simp only[Bool.and_eq_true,decide_eq_true_eq];omega
theorem HO(a:Nat):a%PP<2^64:=by have:=dc a;have:=HP;omega
def il(draw:List UInt8):Nat:=3^dd draw%PP
def mT(iP:Nat)(draw:List UInt8):List UInt8:=Hpke.sec (iP^dd draw%PP) (il draw) iP
def im(iP:Nat)(info beside text draw:List UInt8):List UInt8:=Aes.dU (Hpke.hk (mT iP draw) info) (Hpke.hn (mT iP draw) info) beside text
def pS(key ji:Nat):List UInt8:=Hpke.sec (ji^key%PP) ji (3^key%PP)
def n8(key ji:Nat)(text info beside:List UInt8):List UInt8:=iq (Hpke.hk (pS key ji) info) (Hpke.hn (pS key ji) info) beside text
def n9(key ji:Nat)(text info beside:List UInt8):Nat:=ir (Hpke.hk (pS key ji) info) (Hpke.hn (pS key ji) info) beside text
theorem Lg(dO:Γ 0=ef Sha.H0)(hG:Γ 1=Sha.K.map wV)(iP:Nat)(hp:vK iP)(info beside text draw:List UInt8)(hi:info.length≤60000)(hb:beside.length≤2^30)(ht:text.length≤2^30)(hd:draw.length≤2^36)(s:AS):
  aj prog Γ 107 [.v (.int .u64 iP),al info .any,al beside .any,al text .any,al draw .any] s
   (fun r s'=>r=.eo [.agg [.v (.int .u64 (il draw)),al (im iP info beside text draw) .any],.v (.int .i64 ((0:Nat):Int))]∧s'=s):=by
 refine aa func107 rfl ntmps107 results107 (by simp) ?_;have Lh:iP<2^64:=(by have:=hp.2;omega);have hke:=uJ draw;have c1:=fun s=>oc (Γ:=Γ) dO hG draw hd s;have c2:=fun s=>eN (Γ:=Γ) (dd draw) (by omega) s;have c3:=fun s=>oI (Γ:=Γ) (dd draw) iP (by omega) Lh s;have c4:=fun s=>vJ (Γ:=Γ) dO hG (iP^dd draw%PP) (il draw) iP info (HO _) Lh hi s;have qY:=Ld (mT iP draw) info hi;have FC:=Le (mT iP draw) info hi;have c5:=fun s=>Gk (Γ:=Γ) dO hG (Hpke.hk (mT iP draw) info) (Hpke.hn (mT iP draw) info) beside text hb ht s;simp only[show ym (Hpke.hk (mT iP draw) info) (Hpke.hn (mT iP draw) info) beside text=im iP info beside text draw from by unfold ym;rw[if_pos ⟨qY,FC⟩];rfl,show yn (Hpke.hk (mT iP draw) info) (Hpke.hn (mT iP draw) info)=0 from by unfold yn;rw[if_pos ⟨qY,FC⟩]] at c5;simp only[show Hpke.sec (iP^dd draw%PP) (il draw) iP=mT iP draw from rfl] at c4;simp only[show 3^dd draw%PP=il draw from rfl] at c2;generalize im iP info beside text draw=z at *
 generalize Hpke.hk (mT iP draw) info=k at *
 generalize Hpke.hn (mT iP draw) info=n at *
 generalize iP^dd draw%PP=sh at *
 generalize il draw=f at *
 generalize dd draw=e at *
 refine jQ fun K hK=>?_;intro o ho;refine hK _ _ ?_;clear hK K;refine wK fun K hK=>?_;refine jQ fun K hK=>?_;refine ad (ch iP _) ?_;rintro r s1 ⟨rfl,rfl⟩;refine jV (Eh hp) hK ?_;clear hK K;refine jF ?_;refine ab ?_;refine hK _ _ ?_;clear hK K;refine jK (c1 _) ?_;rintro s2 rfl;refine jK (c2 _) ?_;rintro s3 rfl;refine jQ fun K hK=>?_;refine ad (c3 _) ?_;rintro r s4 ⟨rfl,rfl⟩;refine jM ?_;refine ad (c4 _) ?_;rintro r s5 ⟨rfl,rfl⟩;refine jR hK ?_;clear hK K;refine wK fun K hK=>?_;refine jA ?_;refine jF ?_;refine ab ?_;refine hK _ _ ?_;clear hK K;refine jK (c5 _) ?_;rintro s6 rfl;refine wK fun K hK=>?_;refine jB (show(((0:Nat):Int) != 0)=false from rfl) ?_;refine jF ?_;refine ab ?_;refine hK _ _ ?_;clear hK K;refine jA ?_;refine a8 ?_;refine lI (o:=o) (off:=0) rfl (AS.ae _ _ _) (by rw[T.Sg];decide) (by simp only[↓DN,Qa,Qb,Qc,Qd,Qe,Qf,Qg,Qh,reduceCtorEq,↓reduceIte,Na,Nb,Nc,Nk,Nf,Ng,Nh,Za,Zb,Zc,TT];rfl) ?_;exact⟨_,s,AV.aB.refl _,AS.aE (AS.le.refl s) ho _,rfl,rfl⟩
def yo(key ji:Nat):Prop:=vK ji∧1≤key∧key≤2305843009213693949
instance(key ji:Nat):Decidable (yo key ji):=by unfold yo;infer_instance
theorem Li(dO:Γ 0=ef Sha.H0)(hG:Γ 1=Sha.K.map wV)(key ji:Nat)(hk:yo key ji)(text info beside:List UInt8)(hi:info.length≤60000)(hb:beside.length≤2^30)(ht:text.length≤2^30)(s:AS):
  aj prog Γ 132 [.v (.int .u64 key),.agg [.v (.int .u64 ji),al text .any],al info .any,al beside .any] s
   (fun r s'=>r=.eo [al (n8 key ji text info beside) .any,.v (.int .i64 ((n9 key ji text info beside:Nat):Int))]∧s'=s):=by
 refine aa func132 rfl ntmps132 results132 (by simp) ?_;obtain⟨hp,h1,h2⟩:=hk;have Lh:ji<2^64:=(by have:=hp.2;omega);have c2:=fun s=>eN (Γ:=Γ) key (by omega) s;have c3:=fun s=>oI (Γ:=Γ) key ji (by omega) Lh s;have c4:=fun s=>vJ (Γ:=Γ) dO hG (ji^key%PP) ji (3^key%PP) info Lh (HO _) hi s;have qY:=Ld (pS key ji) info hi;have FC:=Le (pS key ji) info hi;have c5:=fun s=>wy (Γ:=Γ) dO hG (Hpke.hk (pS key ji) info) (Hpke.hn (pS key ji) info) beside text hb ht s;simp only[show Sv (Hpke.hk (pS key ji) info) (Hpke.hn (pS key ji) info) beside text=n8 key ji text info beside from by unfold Sv;rw[if_pos ⟨qY,FC⟩];rfl,show Sw (Hpke.hk (pS key ji) info) (Hpke.hn (pS key ji) info) beside text=n9 key ji text info beside from by unfold Sw;rw[if_pos ⟨qY,FC⟩];rfl] at c5;simp only[show Hpke.sec (ji^key%PP) ji (3^key%PP)=pS key ji from rfl] at c4;generalize n8 key ji text info beside=z at *
 generalize n9 key ji text info beside=y at *
 generalize Hpke.hk (pS key ji) info=k at *
 generalize Hpke.hn (pS key ji) info=n at *
 generalize ji^key%PP=sh at *
 generalize 3^key%PP=to at *
 refine aU 5 (by simp[cq]) ?_;intro K hK;refine jM ?_;intro o ho;refine hK _ _ o _ rfl ho ?_;clear hK K ho;refine wK fun K hK=>?_;refine jQ fun K hK=>?_;refine ad (ch ji _) ?_;rintro r s1 ⟨rfl,rfl⟩;refine jV (Ai (Eh hp) (Ai (decide_eq_false (show ¬(key:Int)<1 by omega)) (decide_eq_false (show ¬(2305843009213693949:Int)<(key:Int) by omega)))) hK ?_;clear hK K;refine jF ?_;refine ab ?_;refine hK _ _ ?_;clear hK K;refine ba T.mixed [3,7,9] (by kernel_rfl) ?_;intro K hK;refine jM ?_;refine ad (c3 _) ?_;rintro r s2 ⟨rfl,rfl⟩;refine jM ?_;refine ad (c2 _) ?_;rintro r s3 ⟨rfl,rfl⟩;refine jM ?_;refine ad (c4 _) ?_;rintro r s4 ⟨rfl,rfl⟩;refine jR hK ?_;clear hK K;refine wK fun K hK=>?_;refine jA ?_;refine jF ?_;refine ab ?_;refine hK _ _ ?_;clear hK K;refine jK (c5 _) ?_;rintro s5 rfl;exact jJ
theorem Lj(d:List UInt8):il d=3^dd d%PP:=rfl
theorem Lk(a b:Nat):(3^a%PP)^b%PP=(3^b%PP)^a%PP:=by
  rw[←Nat.pow_mod,←Nat.pow_mod,←Nat.pow_mul,←Nat.pow_mul,Nat.mul_comm]
theorem Ei(k:Nat)(draw:List UInt8):pS k (il draw)=mT (3^k%PP) draw:=by
  unfold pS mT il;rw[Lk]
theorem Sx(k:Nat)(info beside text draw:List UInt8):n8 k (il draw) (im (3^k%PP) info beside text draw) info beside=text:=by
  unfold n8 im;rw[Ei,yp]
theorem Sy(k:Nat)(info beside text draw:List UInt8):n9 k (il draw) (im (3^k%PP) info beside text draw) info beside=0:=by
  unfold n9 im;rw[Ei,yq]
def fY:List UInt8:=[112,97,116,104]
def yr:List UInt8:=[110,111,100,101]
def Ej:List UInt8:=[115,101,97,108]
def ct(d:List UInt8):Nat→List UInt8
 |0=>d
 |k+1=>Kdf.derive (ct d k) fY
def pT(x:List UInt8):Nat:=dd (Kdf.derive x yr)
theorem kV(x l:List UInt8):(Kdf.derive x l).length=32:=by
 rw[Kdf.derive,Kdf.label,Ek,if_pos rfl];exact Kdf.gI _ _ _
theorem El(d:List UInt8)(h:d.length≤2^36):∀k,(ct d k).length≤2^36
 |0=>h
 |k+1=>by rw[ct,kV];decide
theorem qq(d:List UInt8)(k:Nat):(ct d (k+1)).length=32:=kV _ _
theorem HQ(x:List UInt8):pT x<2^64:=by have:=uJ (Kdf.derive x yr);unfold pT;omega
theorem mU(dO:Γ 0=ef Sha.H0)(gg:Γ 1=Sha.K.map wV)(x:List UInt8)(hx:x.length≤2^36)(s:AS):aj prog Γ 49 [al x .any] s (fun r s'=>r=.v (.int .u64 (pT x:Nat))∧s'=s):=by
 refine aa func49 rfl ntmps49 results49 (by simp) ?_;have h1:=fun s=>kW (Γ:=Γ) dO gg x yr hx (by decide) s;have h2:=fun s=>oc (Γ:=Γ) dO gg (Kdf.derive x yr) (by rw[kV];decide) s;obtain⟨k,hk⟩:∃k,k=pT x:=⟨_,rfl⟩;rw[←hk];rw[show dd (Kdf.derive x yr)=k from hk.symm] at h2;generalize Kdf.derive x yr=y at *
 unfold yr at h1;refine jA ?_;refine jQ fun K hK=>?_;refine ad (h1 _) ?_;rintro r s1 ⟨rfl,rfl⟩;refine jM ?_;refine ad (h2 _) ?_;rintro r s2 ⟨rfl,rfl⟩;refine jR hK ?_;clear hK K;exact jJ
theorem pU(dO:Γ 0=ef Sha.H0)(gg:Γ 1=Sha.K.map wV)(d:List UInt8)(hd:d.length≤2^36)(n:Nat)(hn:n≤2^40)(s:AS):aj prog Γ 25 [al d .any,.v (.int .i64 n)] s (fun r s'=>r=al (ct d (n+1)) .any∧s'=s):=by
 refine aa func25 rfl ntmps25 results25 (by simp) ?_;unfold al;have e1:ec .i64 (n:Int) 1=((n+1:Nat):Int):=bp n (by omega);refine jA ?_;refine wK fun K hK=>?_;refine jB @e1 ?_;refine ah ?_;refine aD (fun E s2=>∃(i:Nat)(x:List UInt8),x=ct d i∧i≤n+1∧E 7=.v (.int .i64 i)∧E 6=.v (.int .i64 (n+1:Nat))∧E 0=.sl 1 x.length (x.map ai) .any∧s2=s)
  (fun E _=>match E 7 with |.v (.int _ i)=>n+1-i.toNat|_=>0) ?_ ?_
 ·exact⟨0,d,rfl,Nat.zero_le _,rfl,rfl,rfl,rfl⟩
 ·rintro E1 s2 ⟨i,x,hx,hi,g7,g6,g0,rfl⟩ -
  have hc:=El d hd i;rw[←hx] at hc;by_cases aY:i<n+1
  ·have h1:=fun s=>kW (Γ:=Γ) dO gg x fY hc (by decide) s;have h2:Kdf.derive x fY=ct d (i+1):=(by rw[hx];rfl);generalize Kdf.derive x fY=y at *
   unfold fY al at h1;refine jB (Ai @g7 (Ai @g6 (Ai @aq (decide_eq_true aY)))) ?_;refine wK fun K2 aX=>?_;refine jE ?_;refine ab ?_;refine aX _ _ ?_;clear aX K2;refine wK fun K3 br=>?_;refine ah ?_;refine jU @g0 fun K hK=>?_;refine ad (h1 _) ?_;rintro r s3 ⟨rfl,rfl⟩;refine jR hK ?_;clear hK K;refine br _ _ ?_;clear br K3;refine jD (Ai @g7 (bp i (by omega))) ?_;refine⟨⟨i+1,y,h2,aY,rfl,g6,rfl,rfl⟩,?_⟩;simp only[g7,aH,↓reduceIte];omega
  ·obtain rfl:i=n+1:=(by omega);rw[←hx] at hK;have h2:=fun s=>fN (Γ:=Γ) x s (by omega);unfold al at h2;have bJ:¬(n+1)<n+1:=(by omega);refine jB (Ai @g7 (Ai @g6 (Ai @aq (decide_eq_false bJ)))) ?_;refine wK fun K2 aX=>?_;refine jF ?_;refine aC ?_;simp only[az,ar,if_true];refine hK _ _ ?_;clear hK aX K2 K;refine jS @g0 fun K hK=>?_;refine ad (h2 _) ?_;rintro r s3 ⟨rfl,rfl⟩;refine jR hK ?_;clear hK K;exact jJ
end Go.Proofs.YtbiefppedlodiaaGreatDoor
namespace Go.AM
structure bY where
  node:Int
  key:Nat
  deriving DecidableEq
def bY.cells(h:bY):List AV:=[.v (.int .i64 h.node),.v (.int .u64 h.key)]
def jy(l:List bY):AV:=.sl 2 l.length (aK bY.cells l) .any
theorem kX{α:Type}(c:α→List AV)(a b:List α):aK c (a++b)=aK c a++aK c b:=by simp[aK]
end Go.AM
namespace Go.Proofs.YtbiefppedlodiaaGreatDoor
open Go Go.AM Go.Proofs Tryz
variable{Γ:Nat→List AV}
theorem qZ(l:List bY)(hl:l.length≤2^61)(sp:Sp)(k:FuncId)(hk:ag prog k=true)(cd:List AV)(P:bY→Bool)
  (hP:∀x∈l,∀s,aj prog Γ k (.agg x.cells::cd) s (fun r s'=>r=.v (.bool (P x))∧s'=s)) (s:AS):
  aj prog Γ 130 [.sl 2 l.length (aK bY.cells l) sp,.qx k cd] s (fun r s'=>r=.v (.int .i64 (cc (fun i=>P (l.getD i ⟨0,0⟩)) l.length 0))∧s'=s):=by
 refine aa func130 rfl ntmps130 results130 (by simp) ?_;obtain⟨Q,hQ⟩:∃Q:Nat→Bool,Q=fun i=>P (l.getD i ⟨0,0⟩):=⟨_,rfl⟩;rw[←hQ];have tp:=fun i(h:i<l.length)=>mV (c:=bY.cells) (k:=2) (fun _=>rfl) h;generalize aK bY.cells l=Y at *
 refine jA ?_;refine wK fun K hK=>?_;refine jA ?_;refine ah ?_;refine aD (fun E s2=>∃i:Nat,i≤l.length∧cc Q (l.length-i) i=cc Q l.length 0∧E 8=.v (.int .i64 i)∧E 7=.v (.int .i64 l.length)∧E 0=.sl 2 l.length Y sp∧E 1=.qx k cd∧s2=s)
  (fun E _=>match E 8 with |.v (.int _ i)=>l.length-i.toNat|_=>0) ?_ ?_
 ·exact⟨0,Nat.zero_le _,rfl,rfl,rfl,rfl,rfl,rfl⟩
 ·rintro E1 s2 ⟨i,hi,hf,g8,g7,g0,g1,rfl⟩ -
  by_cases aY:i<l.length
  ·refine jB (Ai @g8 (Ai @g7 (Ai @aq (decide_eq_true aY)))) ?_;refine wK fun K2 aX=>?_;refine jE ?_;refine ab ?_;refine aX _ _ ?_;clear aX K2;refine wK fun K3 br=>?_;refine ah ?_;have zw:Q i=P l[i]:=(by rw[hQ];simp[List.getD,aY]);have hc:=hP l[i] (List.getElem_mem aY) s2;rw[←zw] at hc;obtain⟨k',Fy⟩:∃k',l.length-i=k'+1:=⟨l.length-i-1,by omega⟩;have Da:l.length-(i+1)=k':=(by omega);rw[Fy] at hf;have cx:=tp i aY;have cl:(0:Int)≤(i:Int):=(by omega);generalize l[i]=q at *
   unfold bY.cells at cx hc;refine jB @g8 ?_;refine jS (Ai @g1 (Ai @g0 (Ai @aq (Ai @aY (Ai @cl @cx))))) fun K hK=>?_;refine⟨hk,?_⟩;refine ad hc ?_;rintro r s3 ⟨rfl,rfl⟩;cases hq:Q i with
   |true=>
    refine jR hK ?_;clear hK K;refine jE ?_;refine jA ?_;refine jI ?_;rw[←hf,jX hq];exact jW ⟨rfl,rfl⟩
   |false=>
    refine jR hK ?_;clear hK K;refine jF ?_;refine ab ?_;simp only[ar,az,if_true,if_false];refine br _ _ ?_;clear br K3;refine jD (Ai @g8 (bp i (by omega))) ?_;refine⟨⟨i+1,by omega,by rw[Da,←hf,jY hq],rfl,g7,g0,g1,rfl⟩,?_⟩;simp only[g8,aH,↓reduceIte];omega
  ·refine jB (Ai @g8 (Ai @g7 (Ai @aq (decide_eq_false aY)))) ?_;refine wK fun K2 aX=>?_;refine jF ?_;refine aC ?_;simp only[az,ar,if_true];refine hK _ _ ?_;clear hK aX K2 K;rw[show l.length-i=0 by omega] at hf;refine jA ?_;refine jI ?_;rw[←hf];exact jW ⟨rfl,rfl⟩
theorem zT(l:List bY)(hl:l.length≤2^61)(sp:Sp)(k:FuncId)(hk:ag prog k=true)(cd:List AV)(P:bY→Bool)
  (hP:∀x∈l,∀s,aj prog Γ k (.agg x.cells::cd) s (fun r s'=>r=.v (.bool (P x))∧s'=s)) (qC:∀x∈l,P x=false) (s:AS):
  aj prog Γ 81 [.sl 2 l.length (aK bY.cells l) sp,.qx k cd] s (fun r s'=>r=.sl 2 l.length (aK bY.cells l) sp∧s'=s):=by
 refine aa func81 rfl ntmps81 results81 (by simp) ?_;have yf:=qZ (Γ:=Γ) l hl sp k hk cd P hP s;have hn:cc (fun i=>P (l.getD i ⟨0,0⟩)) l.length 0= -1:=by
  rcases mG (fun i=>P (l.getD i ⟨0,0⟩)) l.length 0 with⟨h,-⟩|⟨i,-,hi,hp,-,-⟩
  ·exact h
  ·have aY:i<l.length:=(by omega);simp only[List.getD,aY,List.getElem?_eq_getElem,Option.getD_some] at hp;rw[qC _ (List.getElem_mem aY)] at hp;cases hp
 rw[hn] at yf;generalize aK bY.cells l=Y at *
 refine jA ?_;refine jK yf ?_;rintro s1 rfl;refine wK fun K hK=>?_;refine jA ?_;refine jE ?_;refine jA ?_;exact jJ
theorem wz(l:List bY)(h0:l.length≠0)(hl:l.length≤2^40)(s:AS):aj prog Γ 82 [jy l] s (fun r s'=>∃t,r=.sl 2 l.length (aK bY.cells l) (.own t 0)∧s.own t=none∧s'=s.bw t 0):=by
 refine aa func82 rfl ntmps82 results82 (by simp) ?_;have kO:(aK bY.cells l).all AV.one=true:=by
  rw[List.all_eq_true];intro c hc;simp only[aK,List.mem_flatten,List.mem_map] at hc;obtain⟨_,⟨n,-,rfl⟩,hc⟩:=hc;simp only[bY.cells,List.mem_cons,List.not_mem_nil,or_false] at hc;rcases hc with rfl|rfl<;>rfl
 unfold jy;generalize aK bY.cells l=X at *
 refine jA ?_;refine wK fun K hK=>?_;refine jB @h0 ?_;refine jF ?_;refine ab ?_;refine hK _ _ ?_;clear hK K;refine jS (Ai @h0 @kO) fun K hK=>?_;refine⟨by omega,by omega,fun t ht=>?_⟩;refine hK _ _ ?_;clear hK K;refine jI ?_;exact jW ⟨t,rfl,ht,rfl⟩
end Go.Proofs.YtbiefppedlodiaaGreatDoor
namespace Go.AM
open Go
theorem OE:∀n<63,2*lo n+2^lv n=n+1∧2*hi n+1=n+2^lv n:=by decide+kernel
theorem OG:∀n<63,∀l<5,lv n=l+1→2^l≤n∧lv (n-2^l)=l∧lv (n+2^l)=l∧n+2^l<63:=by decide+kernel
def lP(x n:Nat):Prop:=n<x+2^lv n∧x<n+2^lv n
instance(x n:Nat):Decidable (lP x n):=by unfold lP;infer_instance
theorem Em{t:List af}{skip:List Int}{n:Nat}{x:Int}(h:x∈kI skip (nd t n) n):x=(n:Int)∧(nd t n).kind≠0:=by
  unfold kI at h;split at h
  · rename_i hk;refine⟨by simpa using h,?_⟩;rcases hk with⟨hk,-⟩|hk<;>rw[hk]<;>decide
  · cases h
theorem HR{t:List af}(hr:bd t){skip:List Int}{n:Nat}(hn:n<63)(ht:n<t.length){x:Int}(h:x∈iu skip (nd t n).ig):∃m:Nat,x=(m:Int)∧m<t.length∧(nd t m).kind≠0∧lP m n:=by
  unfold iu at h;rw[List.mem_map] at h;obtain⟨u,hu,rfl⟩:=h;rw[List.mem_filter] at hu;obtain⟨h1,h2,h3⟩:=(hr.2.1 n ht).1.2.2 u hu.1;obtain⟨h4,h5,h6⟩:=h3;unfold ju at h1 h2;rw[if_pos (by omega)] at h1 h2;simp only[Int.toNat_natCast] at h1 h2;have OH:=OE n hn;have bJ:=Ll (t:=t) (i:=u.toNat) (by omega);refine⟨2*u.toNat,by omega,bJ,by rw[h6];decide,?_⟩;unfold lP;omega
theorem yt{t:List af}(hr:bd t)(skip:List Int):∀l n,lv n=l→n<63→n+2^l≤t.length→∀x∈fy t skip l n,∃m:Nat,x=(m:Int)∧m<t.length∧(nd t m).kind≠0∧lP m n
  |0,n=>fun hl hn ht x h=>by
    simp only[fy] at h;rcases List.mem_append.1 h with h|h
    · obtain⟨rfl,hk⟩:=Em h;exact⟨n,rfl,by omega,hk,by unfold lP;rw[hl];omega⟩
    · exact HR hr hn (by omega) h
  |l+1,n=>fun hl hn ht x h=>by
    have hp:=Nat.two_pow_pos l;have Lm:2^(l+1)=2^l+2^l:=(by rw[Nat.pow_succ];omega);have hl5:=oF n;simp only[fy] at h;split at h
    · obtain⟨k1,k2,k3,k4⟩:=OG n hn l (by omega) hl;rcases List.mem_append.1 h with h|h
      · obtain⟨m,h1,h2,h3,h4⟩:=yt hr skip l (n-2^l) k2 (by omega) (by omega) x h;unfold lP at h4;rw[k2] at h4;exact⟨m,h1,h2,h3,by unfold lP;rw[hl];omega⟩
      · obtain⟨m,h1,h2,h3,h4⟩:=yt hr skip l (n+2^l) k3 k4 (by omega) x h;unfold lP at h4;rw[k3] at h4;exact⟨m,h1,h2,h3,by unfold lP;rw[hl];omega⟩
    · rcases List.mem_append.1 h with h|h
      · obtain⟨rfl,hk⟩:=Em h;exact⟨n,rfl,by omega,hk,by unfold lP;rw[hl];omega⟩
      · exact HR hr hn (by omega) h
theorem I7:∀m≤5,∀n<2*2^m-1,n+2^lv n≤2*2^m-1:=by decide+kernel
theorem HS{t:List af}(hr:bd t)(skip:List Int){n:Nat}(ht:n<t.length){x:Int}(h:x∈bA t n skip):∃m:Nat,x=(m:Int)∧m<t.length∧(nd t m).kind≠0∧lP m n:=by
  obtain⟨cu,me⟩:Fit (aM t)∧t.length=2*aM t-1:=by
    rcases bU (t:=t) with h|h
    · exact absurd h hr.1
    · exact h
  have pR:=cu.le;unfold bA at h;rw[if_pos ⟨by omega,by omega,hr⟩,Int.toNat_natCast] at h;refine yt hr skip _ n rfl (by omega) ?_ x h;obtain⟨m,hm,he⟩:=cu.pow;rw[me,he];exact I7 m hm n (by rw[←he];omega)
def Ln:Bool:=(List.range 6).all fun m=>(List.range (2^m)).all fun leaf=>(List.range (aA leaf (2^m)).length).all fun i=>(List.range (2*2^m-1)).all fun u=>!decide (lP u (bZ (nodeAt leaf (2^m) i)))||decide (u∉aA leaf (2^m))
theorem En:Ln=true:=by decide+kernel
theorem Lo{leaf l:Nat}(hl:Fit l)(h:leaf<l){i:Nat}(hi:i<(aA leaf l).length){u:Nat}(hu:u<2*l-1)(hs:lP u (bZ (nodeAt leaf l i))):u∉aA leaf l:=by
  obtain⟨m,hm,rfl⟩:=hl.pow;have k:=En;unfold Ln at k;have k1:=List.all_eq_true.1 k m (List.mem_range.2 (by omega));have k2:=List.all_eq_true.1 k1 leaf (List.mem_range.2 h);have k3:=List.all_eq_true.1 k2 i (List.mem_range.2 hi);have k4:=List.all_eq_true.1 k3 u (List.mem_range.2 hu);simpa[hs] using k4
def Q2(leaf l own:Nat):Int:=cc (fun i=>decide (lo ((aA leaf l).getD i 0)≤own∧own≤hi ((aA leaf l).getD i 0))) (aA leaf l).length 0
end Go.AM
namespace Go.Proofs.YtbiefppedlodiaaGreatDoor
open Go Go.AM Go.Proofs Tryz
variable{Γ:Nat→List AV}
theorem zU(h:bY)(n:Int)(s:AS):aj prog Γ 131 [.agg h.cells,.dr [.v (.int .i64 n)]] s (fun r s'=>r=.v (.bool (h.node==n))∧s'=s):=by
 refine aa func131 rfl ntmps131 results131 (by simp) ?_;obtain⟨hn,hk⟩:=h;simp only[bY.cells];refine aU 2 (by decide) ?_;intro K hK;refine jM ?_;intro o1 h1;refine hK _ _ o1 _ rfl h1 ?_;clear hK K h1;refine jA ?_;exact jJ
theorem Eo(h:bY)(l:List Int)(hl:l.length≤2^61)(s:AS):aj prog Γ 83 [.agg h.cells,.dr [aF l .any]] s (fun r s'=>r=.v (.bool (decide (h.node∈l)))∧s'=s):=by
 refine aa func83 rfl ntmps83 results83 (by simp) ?_;obtain⟨hn,hk⟩:=h;have hc:=fun s=>iv (Γ:=Γ) l hn hl s;simp only[bY.cells];refine aU 2 (by decide) ?_;intro K hK;refine jM ?_;intro o1 h1;refine hK _ _ o1 _ rfl h1 ?_;clear hK K h1;refine jK (hc _) ?_;rintro s1 rfl;exact jJ
theorem Ep(hG:Γ 3=fu.map pn)(x own:Int)(s:AS):aj prog Γ 78 [.v (.int .i64 x),.dr [.v (.int .i64 own)]] s (fun r s'=>r=.v (.bool (fc x own))∧s'=s):=by
 refine aa func78 rfl ntmps78 results78 (by simp) ?_;have hc:=fun s=>ra (Γ:=Γ) hG x own s;refine jA ?_;refine jK (hc _) ?_;rintro s1 rfl;exact jJ
theorem Er(p:cS)(a i:Nat)(hi:a+i<p.steps.length)(hp:p.steps.length≤2^60)(s:AS):aj prog Γ 80 [.v (.int .i64 i),.dr p.cells,.dr [.v (.int .i64 a)]] s (fun r s'=>r=.v (.int .u64 ((p.steps.getD (a+i) ⟨0,[]⟩).key:Nat))∧s'=s):=by
 refine aa func80 rfl ntmps80 results80 (by simp) ?_;obtain⟨pk,pp,ps⟩:=p;simp only at hi hp⊢;have cx:=mV (c:=cb.cells) (k:=2) (fun _=>rfl) hi;have Es:ps.getD (a+i) ⟨0,[]⟩=ps[a+i]:=(by simp[List.getD,hi]);rw[Es];simp only[cS.cells];generalize hY:aK cb.cells ps=Y at *
 generalize ps[a+i]=q at *
 obtain⟨qk,qs⟩:=q;unfold cb.cells at cx;have e1:ec .i64 (a:Int) (i:Int)=((a+i:Nat):Int):=(by rw[eL (by omega)];rfl);have cl:(0:Int)≤((a+i:Nat):Int):=(by omega);have bJ:((a+i:Nat):Int)<(ps.length:Int):=(by omega);refine jA ?_;refine jB (Ai @e1 (Ai @cl (Ai @bJ @cx))) ?_;exact jJ
def iw(d:List UInt8)(i n:Nat):List UInt8:=Kdf.label d Ej [UInt8.ofNat i,UInt8.ofNat n] 32
theorem Lp(d:List UInt8)(i n:Nat):(iw d i n).length≤32:=by
 unfold iw Kdf.label;split
 ·rw[Kdf.gI];decide
 ·exact Nat.zero_le _
theorem Cm(dO:Γ 0=ef Sha.H0)(gg:Γ 1=Sha.K.map wV)(d:List UInt8)(hd:d.length≤2^36)(i n:Nat)(hi:i<256)(hn:n<256)(s:AS):aj prog Γ 108 [al d .any,.v (.int .i64 i),.v (.int .i64 n)] s (fun r s'=>r=al (iw d i n) .any∧s'=s):=by
 refine aa func108 rfl ntmps108 results108 (by simp) ?_;have hc:=fun s=>jx (Γ:=Γ) dO gg d Ej [UInt8.ofNat i,UInt8.ofNat n] 32 hd (by decide) (by simp) (by decide) s;have zx:∀s,aj prog Γ 102 [al d .any,.v (.string ⟨Ej.toArray⟩),.sl 1 2 [.v (.int .u8 (cG .u8 (i:Int))),.v (.int .u8 (cG .u8 (n:Int)))] .new,.v (.int .i64 32)] s (fun r s'=>r=.eo [al (iw d i n) .any,.v (.bool (Kdf.fits Ej [UInt8.ofNat i,UInt8.ofNat n] 32))]∧s'=s):=by
  intro s;rw[←sJ,←sJ];exact aj.gL (fe.aB.cons (AV.aB.refl _) (fe.aB.cons (AV.aB.refl _) (fe.aB.cons AV.bQ (fe.aB.cons (AV.aB.refl _) fe.aB.nil)))) (hc s)
 clear hc;generalize iw d i n=y at *
 unfold al Ej at zx;unfold al;refine jA ?_;refine wS fun K hK=>?_;simp only[↓DN,Qa,Qb,Qc,Qd,Qe,Qf,Qg,Qh,reduceCtorEq,↓reduceIte,Na,Nb,Nc,Nk,Nf,Ng,Nh,Za,Zb,Zc,TT,List.replicate_succ,List.replicate_zero];refine ad (zx _) ?_;rintro r s1 ⟨rfl,rfl⟩;refine jR hK ?_;clear hK K;refine jA ?_;exact jJ
def np(x:List UInt8):Nat:=3^pT x%PP
def dT(x:List UInt8)(kA:List Nat):List bY:=(List.range kA.length).map fun i=>⟨(kA.getD i 0:Nat),pT (ct x i)⟩
def rM(x:List UInt8)(n:Nat)(iP:Nat→Nat):Bool:=(List.range n).all fun i=>decide (np (ct x i)=iP i)
def pV(x:List UInt8)(kA:List Nat)(iP:Nat→Nat):List bY×List UInt8×Bool:=
 if rM x kA.length iP=true then(dT x kA,ct x kA.length,true) else([],[],false)
theorem lQ(x:List UInt8)(kA:List Nat):(dT x kA).length=kA.length:=by simp[dT]
theorem Et(x:List UInt8)(kA:List Nat){i:Nat}(h:i<kA.length):(dT x kA).take (i+1)=(dT x kA).take i++[⟨(kA.getD i 0:Nat),pT (ct x i)⟩]:=by
 rw[List.take_succ_eq_append_getElem (by rw[lQ];exact h)];simp[dT]
theorem vL{x:List UInt8}{n:Nat}{iP:Nat→Nat}(h:∀j,j<n→np (ct x j)=iP j):rM x n iP=true:=by
 unfold rM;rw[List.all_eq_true];intro i hi;rw[decide_eq_true (h i (List.mem_range.1 hi))]
theorem Cn{x:List UInt8}{n:Nat}{iP:Nat→Nat}{i:Nat}(hi:i<n)(h:np (ct x i)≠iP i):rM x n iP=false:=by
 unfold rM;rw[List.all_eq_false];exact⟨i,List.mem_range.2 hi,by simpa using h⟩
theorem zV(dO:Γ 0=ef Sha.H0)(gg:Γ 1=Sha.K.map wV)(x:List UInt8)(hx:x.length≤2^36)(kA:List Nat)(hu:kA.length≤2^30)(k:FuncId)(hk:ag prog k=true)(cd:List AV)(iP:Nat→Nat)
  (hp:∀i,i<kA.length→∀s,aj prog Γ k (.v (.int .i64 i)::cd) s (fun r s'=>r=.v (.int .u64 (iP i:Nat))∧s'=s)) (s:AS):
  aj prog Γ 74 [al x .any,aF (aV kA) .any,.qx k cd] s (fun r s'=>r=.eo [jy (pV x kA iP).1,al (pV x kA iP).2.1 .any,.v (.bool (pV x kA iP).2.2)]∧s'=s):=by
 refine aa func74 rfl ntmps74 results74 (by simp) ?_;obtain⟨R,hR⟩:∃R,R=pV x kA iP:=⟨_,rfl⟩;rw[←hR];have hS:∀i,i<kA.length→(List.take 1 (List.drop i ((aV kA).map aI)))[0]? =some (AV.v (.int .i64 (kA.getD i 0:Nat))):=by
  intro i hi;simp[List.getElem?_take,aV,hi,aI]
 have hlen:=bz kA;obtain⟨L,hL⟩:∃L,L=dT x kA:=⟨_,rfl⟩;have hLt:=fun i(h:i<kA.length)=>Et x kA h;rw[←hL] at hLt;have hs:s.le s:=AS.le.refl _;have xp:∀a b:AV,oV 2 [a,b]=[a,b]:=fun _ _=>rfl;unfold aF al;rw[hlen];generalize aV kA=U at *
 refine jA ?_;refine jA ?_;refine wK fun K hK=>?_;refine jA ?_;refine ah ?_;refine aD (fun E s2=>∃(i:Nat)(y:List UInt8)(z:AV),i≤kA.length∧y=ct x i∧(∀j,j<i→np (ct x j)=iP j)∧E 15=.v (.int .i64 i)∧E 14=.v (.int .i64 kA.length)∧E 13=.sl 1 kA.length (U.map aI) .any∧E 0=.sl 1 y.length (y.map ai) .any∧E 2=.qx k cd∧E 9=z∧cP 2 s s2 z i (aK bY.cells (L.take i))∧s.le s2)
  (fun E _=>match E 15 with |.v (.int _ i)=>kA.length-i.toNat|_=>0) ?_ ?_
 ·exact⟨0,x,bL,Nat.zero_le _,rfl,fun j h=>absurd h (Nat.not_lt_zero _),rfl,rfl,rfl,rfl,rfl,rfl,cP.nil _ _ _,hs⟩
 ·rintro E1 s2 ⟨i,y,z,hi,hy,Es,g15,g14,g13,g0,g2,g9,hz,hle⟩ -
  have hyl:=El x hx i;rw[←hy] at hyl;by_cases aY:i<kA.length
  ·have bJ:((i:Nat):Int)<((kA.length:Nat):Int):=(by omega);have cl:(0:Int)≤((i:Nat):Int):=(by omega);have hSi:=hS i aY;have dM:=hLt i aY;rw[←hy] at dM;have c1:=fun s=>mU (Γ:=Γ) dO gg y hyl s;have c2:=fun s=>eN (Γ:=Γ) (pT y) (HQ y) s;have c3:=hp i aY;have c4:=fun s=>kW (Γ:=Γ) dO gg y fY hyl (by decide) s;have hy2:Kdf.derive y fY=ct x (i+1):=(by rw[hy];rfl);have hpb:np (ct x i)=3^pT y%PP:=(by rw[←hy];rfl);generalize hky:pT y=ky at *
   generalize hpy:3^ky%PP=py at *
   generalize kA.getD i 0=u at *
   generalize Kdf.derive y fY=y2 at *
   unfold al fY at c4;unfold al at c1;refine jB (Ai @g15 (Ai @g14 (decide_eq_true bJ))) ?_;refine wK fun K2 aX=>?_;refine jE ?_;refine ab ?_;refine aX _ _ ?_;clear aX K2;refine wK fun K3 br=>?_;refine ah ?_;refine jB (Ai @g13 (Ai @g15 (Ai @bJ (Ai @cl @hSi)))) ?_;refine jS @g0 fun K hK=>?_;refine ad (c1 _) ?_;rintro r s3 ⟨rfl,rfl⟩;refine jR hK ?_;clear hK K;refine wK fun K4 eb=>?_;refine jS (Ai @g15 @g2) fun K hK=>?_;refine ad (c2 _) ?_;rintro r s4 ⟨rfl,rfl⟩;refine jN (Ai @g15 @g2) ?_;refine⟨hk,?_⟩;refine ad (c3 _) ?_;rintro r s5 ⟨rfl,rfl⟩;by_cases he:py=iP i
   ·have e1:((py:Int) != (iP i:Int))=false:=(by rw[he];simp);refine jV @e1 hK ?_;clear hK K;refine jF ?_;refine ab ?_;refine eb _ _ ?_;clear eb K4;refine wK fun K5 jZ=>?_;have bG:∀(E:Env)(s6:AS)(z':AV),E 15=.v (.int .i64 i)→E 14=.v (.int .i64 kA.length)→E 13=.sl 1 kA.length (U.map aI) .any→E 0=.sl 1 y.length (y.map ai) .any→E 2=.qx k cd→E 9=z'→cP 2 s s6 z' (i+1) (aK bY.cells (L.take (i+1)))→s.le s6→K5 E s6:=by
     intro E s6 z' f15 f14 f13 f0 f2 f9 fz yh;refine jZ _ _ ?_;clear jZ K5;refine jU @f0 fun K hK=>?_;refine ad (c4 _) ?_;rintro r s7 ⟨rfl,rfl⟩;refine jR hK ?_;clear hK K;refine br _ _ ?_;clear br K3;refine jD (Ai @f15 (bp i (by omega))) ?_;refine⟨⟨i+1,y2,z',aY,hy2,?_,rfl,f14,f13,rfl,f2,f9,fz,yh⟩,?_⟩
     ·intro j hj;by_cases e:j=i
      ·subst e;rw[hpb,he]
      ·exact Es j (by omega)
     ·simp only[g15,aH,↓reduceIte];omega
    clear br;rcases hz with⟨rfl,fg,rK⟩|⟨tk,ek,rfl,oY,pW⟩
    ·refine wE fun K hK=>?_;simp only[↓DN,Qa,Qb,Qc,Qd,Qe,Qf,Qg,Qh,reduceCtorEq,↓reduceIte,Na,Nb,Nc,Nk,Nf,Ng,Nh,Za,Zb,Zc,TT,g9,bL,xp];intro tk oY;refine hK _ _ (bG _ _ (.sl 2 1 [.v (.int .i64 (u:Nat)),.v (.int .u64 (ky:Nat))] (.own tk 0)) g15 g14 g13 g0 g2 rfl ?_ ?_)
     ·refine .inr ⟨tk,0,?_,by simp[AS.bw],aZ hle oY⟩;rw[dM,kX,rK];subst fg;rfl
     ·exact AS.bj hle (aZ hle oY) 0
    ·refine jU (Ai @g9 (Ai @oY @xp)) fun K hK=>?_;refine⟨by omega,by omega,hK _ _ (bG _ _ (.sl 2 (i+1) (aK bY.cells (L.take i)++[.v (.int .i64 (u:Nat)),.v (.int .u64 (ky:Nat))]) (.own tk (ek+1))) g15 g14 g13 g0 g2 rfl ?_ ?_)⟩
     ·exact .inr ⟨tk,ek+1,by rw[dM,kX];rfl,by simp[AS.bw],pW⟩
     ·exact AS.bj hle pW (ek+1)
   ·have e1:((py:Int) != (iP i:Int))=true:=by
     rw[bne_iff_ne];omega
    have hRn:R=([],[],false):=by
     rw[hR];unfold pV;rw[Cn aY (by rw[hpb];exact he)];rfl
    refine jV @e1 hK ?_;clear hK K;refine jE ?_;refine jA ?_;refine jI ?_;rw[hRn];exact⟨_,_,AV.uu AV.aN AV.aN (AV.aB.refl _),hle,rfl,rfl⟩
  ·have bJ:¬((i:Nat):Int)<((kA.length:Nat):Int):=(by omega);obtain rfl:i=kA.length:=(by omega);have hRg:R=(L,ct x kA.length,true):=by
    rw[hR,hL];unfold pV;rw[vL Es];rfl
   refine jB (Ai @g15 (Ai @g14 (decide_eq_false bJ))) ?_;refine wK fun K2 aX=>?_;refine jF ?_;refine aC ?_;simp only[az,ar,if_true];refine hK _ _ ?_;clear hK aX K2 K;refine jB (Ai @g9 @g0) ?_;refine jI ?_;rw[hRg];rw[List.take_of_length_le (by rw[hL,lQ];exact Nat.le_refl _)] at hz;have X8:L.length=kA.length:=(by rw[hL,lQ]);unfold jy;simp only;rw[X8,←hy];exact⟨_,_,AV.uu hz.aB (AV.aB.refl _) (AV.aB.refl _),hle,rfl,rfl⟩
theorem Sz(P:bY→Bool)(h:bY):cc (fun i=>P ([h].getD i ⟨0,0⟩)) [h].length 0=if P h=true then 0 else -1:=by
 cases hp:P h<;>simp[cc,hp]
theorem yu(dO:Γ 0=ef Sha.H0)(gg:Γ 1=Sha.K.map wV)(S:cb)(tn:S.dw.length≤2^40)(nodes:List Int)(hn:nodes.length≤2^40)(h:bY)(ctx:List UInt8)(Co:ctx.length≤2^30)(i0:Nat)(fg:i0<nodes.length)
  (he:nodes[i0]=h.node) (Ny:∀j,(hj:j<nodes.length)→j<i0→nodes[j]≠h.node) (X9:i0<S.dw.length) (iN:yo h.key (S.dw[i0]).ji) (me:(S.dw[i0]).text.length≤2^30) (s:AS):
  aj prog Γ 79 [.agg S.cells,aF nodes .any,jy [h],al ctx .any] s (fun r s'=>r=.eo [al (n8 h.key (S.dw[i0]).ji (S.dw[i0]).text fY ctx) .any,.v (.int .i64 ((n9 h.key (S.dw[i0]).ji (S.dw[i0]).text fY ctx:Nat):Int))]∧s'=s):=by
 refine aa func79 rfl ntmps79 results79 (by simp) ?_;obtain⟨qk,qs⟩:=S;simp only at tn X9 iN me⊢;have yf:∀(n:Int)(s:AS),aj prog Γ 130 [.sl 2 [h].length (aK bY.cells [h]) .any,.qx 131 [.dr [.v (.int .i64 n)]]] s (fun r s'=>r=.v (.int .i64 (if(h.node==n)=true then 0 else -1))∧s'=s):=fun n s=>by
  have:=qZ (Γ:=Γ) [h] (by simp) .any 131 (by kernel_rfl) [.dr [.v (.int .i64 n)]] (fun x=>x.node==n) (fun x _ s=>zU x n s) s;rwa [Sz (fun x=>x.node==n) h] at this
 have cx:=mV (c:=dP.cells) (k:=2) (fun _=>rfl) X9;have OI:=mV (c:=bY.cells) (k:=2) (l:=[h]) (i:=0) (fun _=>rfl) (by simp);have Lq:=fun s=>Li (Γ:=Γ) dO gg h.key (qs[i0]).ji iN (qs[i0]).text fY ctx (by decide) Co me s;simp only[cb.cells];generalize aK dP.cells qs=Y at *
 generalize qs[i0]=q at *
 obtain⟨qf,qt⟩:=q;simp only at Lq⊢;unfold dP.cells at cx;simp only at cx;have Gl:∀s,aj prog Γ 132 [.v (.int .u64 h.key),.agg [.v (.int .u64 qf),al qt .any],.sl 1 4 [.v (.int .u8 112),.v (.int .u8 97),.v (.int .u8 116),.v (.int .u8 104)] .new,al ctx .any] s
   (fun r s'=>r=.eo [al (n8 h.key qf qt fY ctx) .any,.v (.int .i64 ((n9 h.key qf qt fY ctx:Nat):Int))]∧s'=s):=fun s=>
  aj.gL (fe.aB.cons (AV.aB.refl _) (fe.aB.cons (AV.aB.refl _) (fe.aB.cons (AV.bQ (sp:=.new)) (fe.aB.cons (AV.aB.refl _) fe.aB.nil)))) (Lq s)
 clear Lq;generalize n8 h.key qf qt fY ctx=RT at *
 generalize n9 h.key qf qt fY ctx=RE at *
 obtain⟨Ef,mi⟩:=h;simp only[jy,List.length_singleton,Nat.zero_mul,List.drop_zero,List.getElem_cons_zero] at yf OI Gl he Ny⊢;generalize aK bY.cells [⟨Ef,mi⟩]=X at *
 unfold bY.cells at OI;simp only at OI;unfold aF al;unfold al at Gl cx;have h01:(0:Int)<((1:Nat):Int):=(by decide);refine aU 4 (by decide) ?_;intro K hK;refine jM ?_;intro o1 h1;refine hK _ _ o1 _ rfl h1 ?_;clear hK K h1;refine wK fun K hK=>?_;refine jA ?_;refine ah ?_;refine aD (fun E s2=>∃i:Nat,i≤i0∧E 15=.v (.int .i64 i)∧E 14=.v (.int .i64 nodes.length)∧E 13=.sl 1 nodes.length (nodes.map aI) .any∧E 2=.sl 2 1 X .any∧E 3=.sl 1 ctx.length (ctx.map ai) .any∧E 4=.dr [.v (.int .u64 qk),.sl 2 qs.length Y .any]∧s2=s)
  (fun E _=>match E 15 with |.v (.int _ i)=>nodes.length-i.toNat|_=>0) ?_ ?_
 ·exact⟨0,Nat.zero_le _,rfl,rfl,rfl,rfl,rfl,rfl,rfl⟩
 ·rintro E1 s2 ⟨i,hi,g15,g14,g13,g2,g3,g4,rfl⟩ -
  have N3:i<nodes.length:=(by omega);have bJ:((i:Nat):Int)<((nodes.length:Nat):Int):=(by omega);have cl:(0:Int)≤((i:Nat):Int):=(by omega);have hS:(List.take 1 (List.drop i (nodes.map aI)))[0]? =some (AV.v (.int .i64 nodes[i])):=by
   simp[List.getElem?_take,N3,aI]
  have hb:=Ny i N3;have hic:=fun s=>yf nodes[i] s;refine jB (Ai @g15 (Ai @g14 (decide_eq_true bJ))) ?_;refine wK fun K2 aX=>?_;refine jE ?_;refine ab ?_;refine aX _ _ ?_;clear aX K2;refine wK fun K3 br=>?_;refine ah ?_;refine aU 11 (by decide) ?_;intro K4 eb;refine jN (Ai @g13 (Ai @g15 (Ai @bJ (Ai @cl @hS)))) ?_;intro o2 q2;refine eb _ _ o2 _ rfl q2 ?_;clear eb K4 q2;refine jS @g2 fun K hK=>?_;refine ad (hic _) ?_;rintro r s3 ⟨rfl,rfl⟩;by_cases hii:i<i0
  ·have dK:(Ef==nodes[i])=false:=by
    rw[beq_eq_false_iff_ne];exact fun k=>hb hii k.symm
   rw[dK];simp only[Bool.false_eq_true,if_false];refine jR hK ?_;clear hK K;refine jA ?_;refine jF ?_;refine ab ?_;simp only[ar,az,if_true,if_false];refine br _ _ ?_;clear br K3;refine jD (Ai @g15 (bp i (by omega))) ?_;refine⟨⟨i+1,by omega,rfl,g14,g13,g2,g3,g4,rfl⟩,?_⟩;simp only[g15,aH,↓reduceIte];omega
  ·obtain rfl:i=i0:=(by omega);have hee:(Ef==nodes[i])=true:=by
    rw[he];simp
   rw[hee];simp only[if_true];have oZ:((i:Nat):Int)<((qs.length:Nat):Int):=(by omega);refine jR hK ?_;clear hK K;refine jA ?_;refine jE ?_;refine ba T.mixed [13] (by kernel_rfl) ?_;intro K hK;simp only[↓DM,bN,DX,Nz,↓DN,Qa,Qb,Qc,Qd,Qe,Qf,Qg,Qh,reduceCtorEq,↓reduceIte,Na,Nb,Nc,Nk,Nf,Ng,Nh,Za,Zb,Zc,TT,g2,g3,g4,cl,oZ,cx,OI,h01,List.replicate_succ,List.replicate_zero];refine ad (Gl _) ?_;rintro r s4 ⟨rfl,rfl⟩;refine jR hK ?_;clear hK K;exact jJ
theorem OJ:∀m≤5,∀leaf<2^m,∀own<2^m,cc (fun i=>fc ((aV (aA leaf (2^m))).getD i 0) (own:Nat)) (aA leaf (2^m)).length 0=Q2 leaf (2^m) own∧(own≠leaf→0≤Q2 leaf (2^m) own∧(Q2 leaf (2^m) own).toNat<(aA leaf (2^m)).length):=by decide+kernel
theorem Ya{leaf l own:Nat}(hl:Fit l)(h:leaf<l)(ho:own<l)(dK:own≠leaf):
    ∃a:Nat,a<(aA leaf l).length∧cc (fun i=>fc ((aV (aA leaf l)).getD i 0) (own:Nat)) (aV (aA leaf l)).length 0=(a:Int)∧Q2 leaf l own=(a:Int):=by
  obtain⟨m,hm,rfl⟩:=hl.pow;obtain⟨h1,h2⟩:=OJ m hm leaf h own ho;obtain⟨h3,h4⟩:=h2 dK;refine⟨(Q2 leaf (2^m) own).toNat,h4,?_,by omega⟩;rw[bz,h1];omega
theorem Gm(l:List Nat)(a:Nat):(aV (l.drop a)).map aI=((aV l).map aI).drop a:=by
  simp[aV,List.map_drop]
theorem OK(l:List bY):(aK bY.cells l).all AV.one=true:=by
 rw[List.all_eq_true];intro c hc;simp only[aK,List.mem_flatten,List.mem_map] at hc;obtain⟨_,⟨n,-,rfl⟩,hc⟩:=hc;simp only[bY.cells,List.mem_cons,List.not_mem_nil,or_false] at hc;rcases hc with rfl|rfl<;>rfl
theorem Cp(dO:Γ 0=ef Sha.H0)(gg:Γ 1=Sha.K.map wV)(hG:Γ 3=fu.map pn)(t:List af)(ht:dE t)(FD:t.length≤2^30)(hw:∀n∈t,nq n)(hr:bd t)(lf:Nat)(hm:cy t lf)
  (p:cS) (hp:p.steps.length=(aA lf (aM t)).length) (ow:Nat) (Yb:cy t ow) (dK:ow≠lf) (h:bY) (ctx:List UInt8) (Co:ctx.length≤2^30) (fresh:List Int) (hf:fresh.length≤2^40) (hnf:(ow:Int)∉fresh) (OL:(fA t lf p fresh).2=0)
  (a:Nat) (ha:Q2 lf (aM t) ow=(a:Int)) (mb:a<p.steps.length) (i0:Nat) (fg:i0<(bA t (bZ (nodeAt lf (aM t) a):Nat) fresh).length) (he:(bA t (bZ (nodeAt lf (aM t) a):Nat) fresh)[i0]=h.node)
  (Ny:∀j,(hj:j<(bA t (bZ (nodeAt lf (aM t) a):Nat) fresh).length)→j<i0→(bA t (bZ (nodeAt lf (aM t) a):Nat) fresh)[j]≠h.node) (X9:i0<(p.steps[a]).dw.length) (tn:(p.steps[a]).dw.length≤2^40) (iN:yo h.key ((p.steps[a]).dw[i0]).ji)
  (me:((p.steps[a]).dw[i0]).text.length≤2^30) (Yc:h.node∉aV (aA lf (aM t))) (x:List UInt8) (hx:n8 h.key ((p.steps[a]).dw[i0]).ji ((p.steps[a]).dw[i0]).text fY ctx=x) (hE:n9 h.key ((p.steps[a]).dw[i0]).ji ((p.steps[a]).dw[i0]).text fY ctx=0)
  (xbM:x.length=32) (JQ:rM x ((aA lf (aM t)).drop a).length (fun i=>(p.steps.getD (a+i) ⟨0,[]⟩).key)=true) (s:AS):
  aj prog Γ 27 [aW t,.v (.int .i64 lf),.agg p.cells,.v (.int .i64 ow),jy [h],al ctx .any,aF fresh .any] s
   (fun r s'=>r=.eo [jy (h::dT x ((aA lf (aM t)).drop a)),al (ct x ((aA lf (aM t)).length-a)) .any,.v (.int .i64 0)]∧s'=s):=by
 refine aa func27 rfl ntmps27 results27 (by simp) ?_;obtain⟨cu,Yd⟩:Fit (aM t)∧t.length=2*aM t-1:=by
  rcases bU (t:=t) with h|h
  ·exact absurd h hr.1
  ·exact h
 have pR:=cu.le;have gJ:lf<aM t:=by
  have:=hm.2.1;omega
 have how:ow<aM t:=by
  have:=Yb.2.1;omega
 have AF:=fw cu gJ;have Lr:=fun s=>rb (Γ:=Γ) dO gg hG t ht FD hw lf p (by omega) fresh hf s;rw[OL] at Lr;have nQ:=fun s=>lR (Γ:=Γ) t ht.1 ow s;rw[decide_eq_true Yb] at nQ;have OM:=fun s=>iv (Γ:=Γ) fresh (ow:Nat) (by omega) s;rw[decide_eq_false hnf] at OM;have dL:=fun s=>iz (Γ:=Γ) hG t ht s;rw[if_pos hr] at dL;have j0:=fun s=>kT (Γ:=Γ) hG lf (aM t) cu gJ s;have Dx:=fun s=>iA (Γ:=Γ) hG lf (aM t) cu gJ s;have dJ:=fun s=>iY (Γ:=Γ) hG t ht (bZ (nodeAt lf (aM t) a):Nat) fresh (by omega) s;obtain⟨a',-,SA,iK⟩:=Ya cu gJ how dK;obtain rfl:a'=a:=(by omega);have yf:=fun s=>oJ (Γ:=Γ) (aV (aA lf (aM t))) (by rw[bz];omega) 78 (by kernel_rfl) [.dr [.v (.int .i64 ow)]] (fun x=>fc x ow) (fun x _ s=>Ep hG x ow s) s;rw[SA] at yf;have Q3:=j9 hr fresh;have JU:(bA t (bZ (nodeAt lf (aM t) a'):Nat) fresh).length≤2^40:=by
  unfold bA;split
  ·have h1:=Q3 (lv (bZ (nodeAt lf (aM t) a'):Int).toNat) (bZ (nodeAt lf (aM t) a'):Int).toNat;have h2:=oF (bZ (nodeAt lf (aM t) a'):Int).toNat;have h3:=Nat.pow_le_pow_right (show 0<2 by decide) h2;omega
  ·exact Nat.zero_le _
 have gP:=fun s=>yu (Γ:=Γ) dO gg p.steps[a'] tn (bA t (bZ (nodeAt lf (aM t) a'):Nat) fresh) JU h ctx Co i0 fg he Ny X9 iN me s;rw[hx,hE] at gP;have hps:p.steps.length=(aA lf (aM t)).length:=hp;have iF:=fun s=>zV (Γ:=Γ) dO gg x (by omega) ((aA lf (aM t)).drop a') (by rw[List.length_drop];omega) 80 (by kernel_rfl) [.dr p.cells,.dr [.v (.int .i64 a')]] (fun i=>(p.steps.getD (a'+i) ⟨0,[]⟩).key) (fun i hi s=>by
  rw[List.length_drop] at hi;exact Er p a' i (by omega) (by omega) s) s
 have hct:pV x ((aA lf (aM t)).drop a') (fun i=>(p.steps.getD (a'+i) ⟨0,[]⟩).key)=(dT x ((aA lf (aM t)).drop a'),ct x ((aA lf (aM t)).length-a'),true):=by
  unfold pV;rw[if_pos JQ,List.length_drop]
 rw[hct] at iF;simp only at iF;have uK:=fun s=>wz (Γ:=Γ) [h] (by simp) (by simp) s;have Q4:=fun tk s=>zT (Γ:=Γ) [h] (by simp) (.own tk 0) 83 (by kernel_rfl) [.dr [aF (aV (aA lf (aM t))) .any]] (fun y=>decide (y.node∈aV (aA lf (aM t)))) (fun y _ s=>Eo y _ (by rw[bz];omega) s)
  (fun y hy=>by rw[List.mem_singleton.1 hy];exact decide_eq_false Yc) s
 have X8:=lQ x ((aA lf (aM t)).drop a');rw[List.length_drop] at X8;have rK:(dT x ((aA lf (aM t)).drop a')).length≠0:=(by omega);have kO:=OK (dT x ((aA lf (aM t)).drop a'));have Q5:jy (h::dT x ((aA lf (aM t)).drop a'))=.sl 2 (1+(dT x ((aA lf (aM t)).drop a')).length) (aK bY.cells [h]++aK bY.cells (dT x ((aA lf (aM t)).drop a'))) .any:=by
  rw[←kX];unfold jy;rw[List.length_cons,Nat.add_comm,List.singleton_append]
 have Fs:(aV ((aA lf (aM t)).drop a')).length=(aA lf (aM t)).length-a':=(by rw[bz,List.length_drop]);have FC:=bz (aA lf (aM t));have Qz:List.drop a' (List.take (aA lf (aM t)).length ((aV (aA lf (aM t))).map aI))=(aV ((aA lf (aM t)).drop a')).map aI:=by
  rw[Gm,List.take_of_length_le (by rw[List.length_map,bz];exact Nat.le_refl _)]
 have Gn:(aV (cJ lf (aM t))).length=(aA lf (aM t)).length:=(by simp[bz,cJ]);have SC:(List.take 1 (List.drop a' ((aV (cJ lf (aM t))).map aI)))[0]? =some (AV.v (.int .i64 (bZ (nodeAt lf (aM t) a'):Nat))):=by
  have hi:a'<(aA lf (aM t)).length:=(by omega);simp[List.getElem?_take,aV,cJ,hi,aI]
 have iH:=mV (c:=cb.cells) (k:=2) (fun _=>rfl) mb;rw[Q5];obtain⟨pk,pp,ps⟩:=p;simp only[cS.cells] at *
 clear hct JQ Q3 JU hE hx iN me X9 tn Ny he fg SA iK ha Yb hm OL Yc Q5 hw;generalize hY:aK cb.cells ps=Y at *
 generalize ps[a']=q at *
 obtain⟨qk,qs⟩:=q;unfold cb.cells at gP iH;simp only at gP iH;generalize aV (cJ lf (aM t))=SD at *
 unfold aW aF at *
 unfold jy al at *
 rw[Fs] at iF;rw[FC] at yf j0 Q4;generalize bZ (nodeAt lf (aM t) a')=sd at *
 generalize bA t (sd:Nat) fresh=RT at *
 generalize ct x ((aA lf (aM t)).length-a')=y at *
 generalize dT x ((aA lf (aM t)).drop a')=CL at *
 generalize aV ((aA lf (aM t)).drop a')=U2 at *
 generalize aA lf (aM t)=P at *
 generalize aV P=U at *
 have ga:((a':Nat):Int)≤((P.length:Nat):Int):=(by omega);have pX:(0:Int)≤((a':Nat):Int):=(by omega);have gQ:=Int.le_refl ((P.length:Nat):Int);have xbN:((a':Nat):Int)<((ps.length:Nat):Int):=(by omega);have oZ:((a':Nat):Int)<((SD.length:Nat):Int):=(by omega);have e1:((ow:Int)==(lf:Int))=false:=by
  rw[beq_eq_false_iff_ne];omega
 have e2:((x.length:Int) != 32)=false:=(by rw[xbM];rfl);have Q6:((0:Int) != 0)=false:=rfl;have e01:(((0:Nat):Int) != 0)=false:=rfl;refine ic 9 10 (by decide) (by decide) (by decide) ?_;intro K hK;refine jM ?_;intro o1 q1 o2 q2;refine hK _ _ o1 o2 _ _ rfl rfl q1 (by rw[AS.gK];exact q2) ?_;clear hK K q1 q2;refine wK fun K hK=>?_;refine jK (Lr _) ?_;rintro s1 rfl;refine jB @Q6 ?_;refine jF ?_;refine ab ?_;refine hK _ _ ?_;clear hK K;refine wK fun K hK=>?_;refine jQ fun K hK=>?_;refine ad (nQ _) ?_;rintro r s2 ⟨rfl,rfl⟩;refine jN @e1 ?_;refine ad (OM _) ?_;rintro r s3 ⟨rfl,rfl⟩;refine jR hK ?_;clear hK K;refine jF ?_;refine ab ?_;refine hK _ _ ?_;clear hK K;refine jK (dL _) ?_;rintro s4 rfl;refine aU 20 (by decide) ?_;intro K hK;refine jM ?_;refine ad (j0 _) ?_;rintro r s5 ⟨rfl,rfl⟩;refine jM ?_;refine ad (Dx _) ?_;rintro r s6 ⟨rfl,rfl⟩;refine jM ?_;intro o3 q3;refine hK _ _ o3 _ rfl q3 ?_;clear hK K q3;refine aU 22 (by decide) ?_;intro K hK;refine jM ?_;refine ad (yf _) ?_;rintro r s7 ⟨rfl,rfl⟩;refine jM ?_;intro o4 q4;refine hK _ _ o4 _ rfl q4 ?_;clear hK K q4;refine ba T.mixed [11,14] (by kernel_rfl) ?_;intro K hK;refine jN (Ai @pX (Ai @xbN (Ai @iH (Ai @oZ @SC)))) ?_;refine ad (dJ _) ?_;rintro r s8 ⟨rfl,rfl⟩;refine jM ?_;refine ad (gP _) ?_;rintro r s9 ⟨rfl,rfl⟩;refine jR hK ?_;clear hK K;refine wK fun K hK=>?_;refine jB (Ai @e01 @Q6) ?_;refine jF ?_;refine ab ?_;refine hK _ _ ?_;clear hK K;refine jS (Ai @ga (Ai @pX (Ai @gQ (Ai @Int.toNat_natCast (Ai @Nat.mul_one @Qz))))) fun K hK=>?_;refine ad (iF _) ?_;rintro r ON ⟨rfl,rfl⟩;refine jR hK ?_;clear hK K;refine wK fun K hK=>?_;refine jB @e2 ?_;refine jF ?_;refine ab ?_;refine hK _ _ ?_;clear hK K;refine jQ fun K hK=>?_;refine ad (uK _) ?_;rintro r OO ⟨tk,rfl,dM,rfl⟩;refine jM ?_;refine ad (Q4 tk _) ?_;rintro r s12 ⟨rfl,rfl⟩;refine jR hK ?_;clear hK K;refine jS (Ai @rK @kO) fun K hK=>?_;refine⟨by omega,by omega,hK _ _ ?_⟩;clear hK K;refine jI ?_;exact⟨_,_,AV.uu AV.bQ (AV.aB.refl _) (AV.aB.refl _),AS.bj (AS.bj (AS.le.refl _) dM 0) dM 1,rfl,rfl⟩
def tq(t:List af)(d ctx:List UInt8)(i n:Nat):dP:=⟨il (iw d i n),im (nd t n).key fY ctx (ct d (i+1)) (iw d i n)⟩
def gy(t:List af)(d ctx:List UInt8)(i:Nat)(RT:List Int):cb:=⟨np (ct d (i+1)),RT.map fun n=>tq t d ctx i n.toNat⟩
def vM(d:List UInt8)(i:Nat)(n:Int):Bool:=fO (il (iw d i n.toNat))
def stepG(d:List UInt8)(i:Nat)(RT:List Int):Bool:=fO (np (ct d (i+1)))&&RT.all (vM d i)
theorem SE{t:List af}(hr:bd t){m:Nat}(h:(nd t m).kind≠0):vK (nd t m).key:=by
 have hn:=hr.nd m;rcases iX hn with hk|hk|hk
 ·exact absurd hk h
 ·have:=((eY hk).1 hn).2.2.1;exact⟨this.1,this.2.1⟩
 ·have:=((fJ hk).1 hn).2.1;exact⟨this.1,this.2.1⟩
theorem Ls{s:AS}{x8 rN:Nat}{Z W:List AV}(Ua:s.aw x8=none)(zW:(if rN=x8 then some Z else s.aw rN)=none):
  rN≠x8∧((s.set x8 Z).set rN W).aw x8=some Z∧((s.set x8 Z).set rN W).aw rN=some W∧s.le ((s.set x8 Z).set rN W)∧s.aw rN=none:=by
 have dK:rN≠x8:=(fun e=>by rw[if_pos e] at zW;cases zW);rw[if_neg dK] at zW;exact⟨dK,by rw[AS.ao _ (Ne.symm dK)];exact AS.ae _ _ _,AS.ae _ _ _,AS.aE (AS.aE (AS.le.refl s) Ua _) zW _,zW⟩
theorem none_le{s s2:AS}(h:s.le s2){o:Nat}(ho:s2.aw o=none):s.aw o=none:=by
 cases hx:s.aw o with
 |none=>rfl
 |some cs=>rw[h.aw o cs hx] at ho;cases ho
theorem uL{s s2:AS}(h:s.le s2){o:Nat}(ho:s.aw o=none)(cs:List AV):s.le (s2.set o cs):=AS.aE h ho cs
theorem Cq(dO:Γ 0=ef Sha.H0)(gg:Γ 1=Sha.K.map wV)(hG:Γ 3=fu.map pn)(t:List af)(ht:dE t)(hr:bd t)(i:Nat)(hi:i<256)(sd:Nat)(Iy:sd<t.length)
  (d ctx:List UInt8) (hd:d.length≤2^36) (Co:ctx.length≤2^30) (fresh:List Int) (hf:fresh.length≤2^40) (s:AS):
  aj prog Γ 48 [aW t,.v (.int .i64 i),.v (.int .i64 sd),al d .any,al ctx .any,aF fresh .any] s
   (fun r s'=>r=.eo [.agg (if stepG d i (bA t sd fresh)=true then gy t d ctx i (bA t sd fresh) else⟨0,[]⟩).cells,.v (.int .i64 (if stepG d i (bA t sd fresh)=true then 0 else 30))]∧s'=s):=by
 refine aa func48 rfl ntmps48 results48 (by simp) ?_;have hRm:∀x∈bA t sd fresh,∃m:Nat,x=(m:Int)∧m<t.length∧(nd t m).kind≠0∧lP m sd:=fun x h=>HS hr fresh Iy h;have JU:(bA t sd fresh).length≤2^40:=by
  unfold bA;split
  ·have h1:=j9 hr fresh (lv (sd:Int).toNat) (sd:Int).toNat;have h2:=oF (sd:Int).toNat;have h3:=Nat.pow_le_pow_right (show 0<2 by decide) h2;omega
  ·exact Nat.zero_le _
 have xg7:t.length≤63:=by
  rcases bU (t:=t) with h|h
  ·exact absurd h hr.1
  ·have:=h.1.le;omega
 have dJ:=fun s=>iY (Γ:=Γ) hG t ht sd fresh (by omega) s;have mT:=fun s=>pU (Γ:=Γ) dO gg d hd i (by omega) s;have tn:=qq d i;have mi:=fun s=>mU (Γ:=Γ) dO gg (ct d (i+1)) (by omega) s;have Lt:=fun s=>eN (Γ:=Γ) (pT (ct d (i+1))) (HQ _) s;have NA:=fun n s=>ch (Γ:=Γ) n s;have Ye:=fun n(hn:n<256)s=>Cm (Γ:=Γ) dO gg d hd i n hi hn s;have Bi:=fun iP(hp:vK iP)sd(h:sd.length≤2^36)s=>Lg (Γ:=Γ) dO gg iP hp fY ctx (ct d (i+1)) sd (by decide) Co (by omega) h s;generalize bA t sd fresh=RT at *
 obtain⟨R,hR⟩:∃R,R=(if stepG d i RT=true then gy t d ctx i RT else⟨0,[]⟩):=⟨_,rfl⟩;obtain⟨RE,hRE⟩:∃RE,RE=(if stepG d i RT=true then(0:Int) else 30):=⟨_,rfl⟩;rw[←hR,←hRE];have fQ:stepG d i RT=false→R=⟨0,[]⟩∧RE=30:=(fun h=>by rw[hR,hRE,h];exact⟨rfl,rfl⟩);have eO:stepG d i RT=true→R=gy t d ctx i RT∧RE=0:=(fun h=>by rw[hR,hRE,h];exact⟨rfl,rfl⟩);clear hR hRE;obtain⟨L,hL⟩:∃L,L=RT.map fun n=>tq t d ctx i n.toNat:=⟨_,rfl⟩;have hSS:gy t d ctx i RT=⟨np (ct d (i+1)),L⟩:=(by rw[hL];rfl);rw[hSS] at eO;have X8:L.length=RT.length:=(by rw[hL,List.length_map]);have hLt:∀k,(h:k<RT.length)→L.take (k+1)=L.take k++[tq t d ctx i (RT[k]).toNat]:=by
  intro k h;rw[List.take_succ_eq_append_getElem (by omega)];simp[hL]
 have xbQ:∀k,(h:k<RT.length)→vM d i RT[k]=false→stepG d i RT=false:=by
  intro k h hb;unfold stepG;rw[Bool.and_eq_false_iff];right;rw[List.all_eq_false];exact⟨RT[k],List.getElem_mem h,by rw[hb];decide⟩
 have Yf:fO (np (ct d (i+1)))=true→(∀k,(h:k<RT.length)→vM d i RT[k]=true)→stepG d i RT=true:=by
  intro h1 h2;unfold stepG;rw[h1,Bool.true_and,List.all_eq_true];intro x hx;obtain⟨k,hk,rfl⟩:=List.mem_iff_getElem.1 hx;exact h2 k hk
 have Yg:fO (np (ct d (i+1)))=false→stepG d i RT=false:=by
  intro h;unfold stepG;rw[h];rfl
 generalize Yh:np (ct d (i+1))=pk at *
 have xbR:3^pT (ct d (i+1))%PP=pk:=Yh;rw[xbR] at Lt;have hsc:∀m:Nat,tq t d ctx i m=⟨il (iw d i m),im (nd t m).key fY ctx (ct d (i+1)) (iw d i m)⟩:=fun _=>rfl;generalize ct d (i+1)=sec at *
 have xp:∀a b:AV,oV 2 [a,b]=[a,b]:=fun _ _=>rfl;unfold aF at *
 unfold al at *
 unfold aW at *
 refine jQ fun K hK=>?_;intro x8 Ua;refine hK _ _ ?_;clear hK K;refine jK (mT _) ?_;rintro s1 rfl;refine jQ fun K hK=>?_;refine ad (mi _) ?_;rintro r s2 ⟨rfl,rfl⟩;refine jM ?_;refine ad (Lt _) ?_;rintro r s3 ⟨rfl,rfl⟩;refine jM ?_;intro rN zW;refine hK _ _ ?_;clear hK K;obtain⟨dK,zX,Gp,hle,zW⟩:=Ls (W:=[.v (.int .u64 pk),.v (.slice none 0 0)]) Ua zW;generalize (s.set x8 [.v (.int .u64 0),.v (.slice none 0 0)]).set rN [.v (.int .u64 pk),.v (.slice none 0 0)]=s3 at *
 have bG:∀(E:Env)(s5:AS),stepG d i RT=false→s.le s5→s5.aw x8=some [.v (.int .u64 0),.v (.slice none 0 0)]→E 12=.ptr x8 0→E 13=.v (.int .i64 30)→cf prog (#[ResultVar.cell 12 76,ResultVar.tmp 13]:Array ResultVar).toList (fun r s'=>r=.eo [.agg R.cells,.v (.int .i64 RE)]∧s'=s) .ret E s5:=by
  intro E s5 hb fR ho f12 f13;obtain⟨rfl,rfl⟩:=fQ hb;refine lI (o:=x8) (off:=0) f12 ho (by rw[T.QF];decide) (by simp only[↓DN,Qa,Qb,Qc,Qd,Qe,Qf,Qg,Qh,reduceCtorEq,↓reduceIte,Na,Nb,Nc,Nk,Nf,Ng,Nh,Za,Zb,Zc,TT];rfl) ?_;rw[f13];exact⟨_,s,AV.cB (AV.pF (fe.aB.cons (AV.aB.refl _) (fe.aB.cons AV.aN fe.aB.nil))) (AV.aB.refl _),fR,rfl,rfl⟩
 have Gq:=NA pk;obtain⟨q,hq⟩:∃q,q=fO pk:=⟨_,rfl⟩;have I8:(decide (2≤(pk:Int))&&decide ((pk:Int)≤2305843009213693949))=q:=hq.symm;rw[I8] at Gq;rw[←hq] at Yg Yf;refine wK fun K hK=>?_;refine jS @Gp fun K hK=>?_;refine ad (Gq _) ?_;rintro r s4 ⟨rfl,rfl⟩;cases q with
 |false=>
  refine jR hK ?_;clear hK K;refine jE ?_;refine jB @zX ?_;refine a8 ?_;try simp only[az,ar]
  exact bG _ _ (Yg rfl) (uL hle Ua _) (AS.ae _ _ _) rfl rfl
 |true=>
  refine jR hK ?_;clear hK K;refine jF ?_;refine ab ?_;refine hK _ _ ?_;clear hK K;refine wK fun K hK=>?_;refine jK (dJ _) ?_;rintro s5 rfl;refine ah ?_;refine aD (fun E s2=>∃(k:Nat)(z:AV),k≤RT.length∧(∀j,(h:j<RT.length)→j<k→vM d i RT[j]=true)∧E 37=.v (.int .i64 k)∧E 36=.v (.int .i64 RT.length)∧E 35=.sl 1 RT.length (RT.map aI) .any∧E 0=.sl 5 t.length (aK af.cells t) .any∧E 1=.v (.int .i64 i)∧E 3=.sl 1 d.length (d.map ai) .any∧E 4=.sl 1 ctx.length (ctx.map ai) .any∧
    E 12=.ptr x8 0∧E 14=.sl 1 sec.length (sec.map ai) .any∧E 15=.ptr rN 0∧s2.aw x8=some [.v (.int .u64 0),.v (.slice none 0 0)]∧s2.aw rN=some [.v (.int .u64 pk),z]∧cP 2 s s2 z k (aK dP.cells (L.take k))∧s.le s2)
   (fun E _=>match E 37 with |.v (.int _ k)=>RT.length-k.toNat|_=>0) ?_ ?_
  ·exact⟨0,bL,Nat.zero_le _,fun j _ h=>absurd h (Nat.not_lt_zero _),rfl,rfl,rfl,rfl,rfl,rfl,rfl,rfl,rfl,rfl,zX,Gp,cP.nil _ _ _,hle⟩
  ·clear zX Gp hle;rintro E1 s6 ⟨k,z,hk,Es,NC,Q7,g35,g0,g1,g3,g4,g12,g14,g15,zX,Gp,hz,hle⟩ -
   by_cases tj:k<RT.length
   ·have bJ:((k:Nat):Int)<((RT.length:Nat):Int):=(by omega);have cl:(0:Int)≤((k:Nat):Int):=(by omega);obtain⟨m,hm,hmt,Nr,-⟩:=hRm RT[k] (List.getElem_mem tj);have hSi:(List.take 1 (List.drop k (RT.map aI)))[0]? =some (AV.v (.int .i64 (m:Nat))):=by
     simp[List.getElem?_take,tj,aI,hm]
    have dM:=hLt k tj;have hfb:=xbQ k tj;have Lu:vM d i RT[k]=fO (il (iw d i m)):=(by rw[hm];rfl);rw[hm,Int.toNat_natCast,hsc] at dM;have c1:=fun s=>Ye m (by omega) s;have c2:=fun s=>Bi (nd t m).key (SE hr Nr) (iw d i m) (by have:=Lp d i m;omega) s;have c3:=fun s=>NA (il (iw d i m)) s;have cx:=cK hmt;have Yi:=Es;generalize il (iw d i m)=fr at *
    generalize im (nd t m).key fY ctx sec (iw d i m)=tx at *
    generalize iw d i m=sd2 at *
    have c2':∀s,aj prog Γ 107 [.v (.int .u64 (nd t m).key),.sl 1 4 [.v (.int .u8 112),.v (.int .u8 97),.v (.int .u8 116),.v (.int .u8 104)] .new,.sl 1 ctx.length (ctx.map ai) .any,.sl 1 sec.length (sec.map ai) .any,.sl 1 sd2.length (sd2.map ai) .any] s
      (fun r s'=>r=.eo [.agg [.v (.int .u64 fr),.sl 1 tx.length (tx.map ai) .any],.v (.int .i64 ((0:Nat):Int))]∧s'=s):=fun s=>
     aj.gL (fe.aB.cons (AV.aB.refl _) (fe.aB.cons (AV.bQ (sp:=.new)) (fe.aB.refl _))) (c2 s)
    clear c2 Es;generalize nd t m=N at *
    obtain⟨n1,n2,n3,n4,n5⟩:=N;generalize aK af.cells t=X at *
    unfold af.cells at cx;simp only at c2';have oZ:((m:Nat):Int)<((t.length:Nat):Int):=(by omega);have pX:(0:Int)≤((m:Nat):Int):=(by omega);have Q6:(((0:Nat):Int)==0)=true:=rfl;have e01:(((0:Nat):Int) != 0)=false:=rfl;refine jB (Ai @Q7 (Ai @NC (decide_eq_true bJ))) ?_;refine wK fun K2 aX=>?_;refine jE ?_;refine ab ?_;refine aX _ _ ?_;clear aX K2;refine wK fun K3 br=>?_;refine ah ?_;refine jB (Ai @g35 (Ai @NC (Ai @bJ (Ai @cl @hSi)))) ?_;refine pM T.mixed [17,18] [(1012,.sl 1 sd2.length (sd2.map ai) .any),(1013,.eo [.agg [.v (.int .u64 fr),.sl 1 tx.length (tx.map ai) .any],.v (.int .i64 ((0:Nat):Int))])] [0,1,2,3,4,5,6,7,8,9,10,11,12,13,14,15,16,17,18,19] (by kernel_rfl) ?_;intro K hK;simp only[↓xa,↓ta,↓nW,↓nY,Nat.reduceAdd,↓nX,ql,nU,rE,bN,DX,Nat.reduceBEq,List.toList_toArray,List.map_cons,List.map_nil,aO,↓DN,Qa,Qb,Qc,Qd,Qe,Qf,Qg,Qh,reduceCtorEq,↓reduceIte,Na,Nb,Nc,Nk,Nf,Ng,Nh,Za,Zb,Zc,TT,g0,g1,g3,g4,g14,oZ,pX,cx,List.replicate_succ,List.replicate_zero];refine HG c1 (HG c2' ?_);intro o ho;refine hK _ _ ?_;clear hK K;have Yj:rN≠o:=(fun e=>by subst e;rw[Gp] at ho;cases ho);have Yk:x8≠o:=(fun e=>by subst e;rw[zX] at ho;cases ho);have yv:=(AS.ao s6 Yk [.v (.int .u64 fr),.sl 1 tx.length (tx.map ai) .any]).trans zX;have wv:=(AS.ao s6 Yj [.v (.int .u64 fr),.sl 1 tx.length (tx.map ai) .any]).trans Gp;have T7:=AS.ae s6 o [.v (.int .u64 fr),.sl 1 tx.length (tx.map ai) .any];have Ub:s.le (s6.set o [.v (.int .u64 fr),.sl 1 tx.length (tx.map ai) .any]):=AS.aE hle (none_le hle ho) _;have kz:cP 2 s (s6.set o [.v (.int .u64 fr),.sl 1 tx.length (tx.map ai) .any]) z k (aK dP.cells (L.take k)):=hz.own fun t e h _=>h;generalize s6.set o [.v (.int .u64 fr),.sl 1 tx.length (tx.map ai) .any]=s7 at *
    clear ho zX Gp hle hz Yk Yj;refine wK fun K4 eb=>?_;refine jS (Ai @Q6 @T7) fun K hK=>?_;refine ad (c3 _) ?_;rintro r s8 ⟨rfl,rfl⟩;obtain⟨q2,I9⟩:∃q2,q2=fO fr:=⟨_,rfl⟩;have hq3:(decide (2≤(fr:Int))&&decide ((fr:Int)≤2305843009213693949))=q2:=I9.symm;rw[hq3];cases q2 with
    |false=>
     simp only[↓ca,↓bI,bN,↓xa,↓ta,↓nW,↓nY,Nat.reduceAdd,↓nX,ql,nU,rE,bN,DX,Nat.reduceBEq,List.toList_toArray,List.map_cons,List.map_nil,aO,DX,Nat.reduceBEq,↓DN,Qa,Qb,Qc,Qd,Qe,Qf,Qg,Qh,reduceCtorEq,↓reduceIte,Na,Nb,Nc,Nk,Nf,Ng,Nh,Za,Zb,Zc,TT];refine hK _ _ ?_;clear hK K;refine jE ?_;refine jT fun K hK=>?_;refine hK _ _ (eb _ _ ?_);clear hK K eb K4;have e30:((30:Int) != 0)=true:=rfl;refine wK fun K5 jZ=>?_;refine jB @e30 ?_;refine jE ?_;refine jB (Ai @g12 @yv) ?_;refine a8 ?_;try simp only[az,ar]
     exact bG _ _ (hfb (by rw[Lu,←I9])) (uL Ub Ua _) (AS.ae _ _ _) g12 rfl
    |true=>
     refine jR hK ?_;clear hK K;refine jF ?_;refine ab ?_;refine eb _ _ ?_;clear eb K4;refine wK fun K5 jZ=>?_;refine jB @e01 ?_;refine jF ?_;refine ab ?_;refine jZ _ _ ?_;clear jZ K5;have qz:∀(E:Env)(s9:AS)(z':AV),E 37=.v (.int .i64 k)→E 36=.v (.int .i64 RT.length)→E 35=.sl 1 RT.length (RT.map aI) .any→E 0=.sl 5 t.length X .any→E 1=.v (.int .i64 i)→E 3=.sl 1 d.length (d.map ai) .any→E 4=.sl 1 ctx.length (ctx.map ai) .any→
       E 12=.ptr x8 0→E 14=.sl 1 sec.length (sec.map ai) .any→E 15=.ptr rN 0→s9.aw x8=some [.v (.int .u64 0),.v (.slice none 0 0)]→s9.aw rN=some [.v (.int .u64 pk),z']→cP 2 s s9 z' (k+1) (aK dP.cells (L.take (k+1)))→s.le s9→K3 E s9:=by
      intro E s9 z' f37 f36 f35 f0 f1 f3 f4 f12 f14 f15 j12 j15 jz Yl;refine br _ _ ?_;clear br K3;refine jD (Ai @f37 (bp k (by omega))) ?_;refine⟨⟨k+1,z',tj,?_,rfl,f36,f35,f0,f1,f3,f4,f12,f14,f15,j12,j15,jz,Yl⟩,?_⟩
      ·intro j hj FE;by_cases e:j=k
       ·subst e;rw[Lu,←I9]
       ·exact Yi j hj (by omega)
      ·simp only[NC,aH,↓reduceIte];omega
     clear br;rcases kz with⟨rfl,fg,rK⟩|⟨tk,ek,rfl,oY,pW⟩
     ·refine wE fun K hK=>?_;simp only[↓DN,Qa,Qb,Qc,Qd,Qe,Qf,Qg,Qh,reduceCtorEq,↓reduceIte,Na,Nb,Nc,Nk,Nf,Ng,Nh,Za,Zb,Zc,TT,g15,wv,T7,bL,xp];intro tk oY;have Lv:=aZ Ub oY;refine hK _ _ (qz _ _ (.sl 2 1 [.v (.int .u64 fr),.sl 1 tx.length (tx.map ai) .any] (.own tk 0)) NC Q7 g35 g0 g1 g3 g4 g12 g14 g15 ?_ ?_ ?_ ?_)
      ·rw[AS.ao _ (Ne.symm dK)];exact yv
      ·exact AS.ae _ _ _
      ·refine .inr ⟨tk,0,?_,by simp[AS.bw,AS.set],Lv⟩;rw[dM,kX,rK];subst fg;rfl
      ·exact AS.aE (AS.bj Ub Lv 0) zW _
     ·refine jU (Ai @g15 (Ai @wv (Ai @T7 (Ai @oY @xp)))) fun K hK=>?_;refine⟨by omega,by omega,?_⟩;refine hK _ _ (qz _ _ (.sl 2 (k+1) (aK dP.cells (L.take k)++[.v (.int .u64 fr),.sl 1 tx.length (tx.map ai) .any]) (.own tk (ek+1))) NC Q7 g35 g0 g1 g3 g4 g12 g14 g15 ?_ ?_ ?_ ?_)
      ·rw[AS.ao _ (Ne.symm dK)];exact yv
      ·exact AS.ae _ _ _
      ·exact .inr ⟨tk,ek+1,by rw[dM,kX];rfl,by simp[AS.bw,AS.set],pW⟩
      ·exact AS.aE (AS.bj Ub pW (ek+1)) zW _
   ·have bJ:¬((k:Nat):Int)<((RT.length:Nat):Int):=(by omega);obtain rfl:k=RT.length:=(by omega);obtain⟨rfl,rfl⟩:=eO (Yf rfl fun j h=>Es j h h);refine jB (Ai @Q7 (Ai @NC (decide_eq_false bJ))) ?_;refine wK fun K2 aX=>?_;refine jF ?_;refine aC ?_;simp only[az,ar,if_true];refine hK _ _ ?_;clear hK aX K2 K;rw[List.take_of_length_le (by omega)] at hz;refine jS (Ai @g15 (Ai @g12 (Ai @Gp @zX))) fun K hK=>?_;refine⟨hz.one,hK _ _ ?_⟩;clear hK K;refine a8 ?_;try simp only[az,ar]
    refine lI (o:=x8) (off:=0) g12 (AS.ae _ _ _) (by rw[T.QF];decide) (by simp only[↓DN,Qa,Qb,Qc,Qd,Qe,Qf,Qg,Qh,reduceCtorEq,↓reduceIte,Na,Nb,Nc,Nk,Nf,Ng,Nh,Za,Zb,Zc,TT];rfl) ?_;unfold cb.cells;simp only;rw[X8];exact⟨_,s,AV.cB (AV.pF (fe.aB.cons (AV.aB.refl _) (fe.aB.cons hz.aB fe.aB.nil))) (AV.aB.refl _),AS.aE hle Ua _,rfl,rfl⟩
end Go.Proofs.YtbiefppedlodiaaGreatDoor
namespace Go.AM
open Go
def dy:AV→Option Nat
  |.sl _ _ _ (.own t _)=>some t
  |_=>none
def gh(sz:Nat)(s0 s:AS)(x:AV)(n:Nat)(cs:List AV)(x0:AV)(n0:Nat)(c0:List AV):Prop:=
  (x=x0∧n=n0∧cs=c0)∨∃t e,x=.sl sz n cs (.own t e)∧s.own t=some e∧s0.own t=none
theorem gh.keep{sz n n0:Nat}{s0 s s':AS}{x x0:AV}{cs c0:List AV}(h:gh sz s0 s x n cs x0 n0 c0)(k:∀t,dy x=some t→s'.own t=s.own t):gh sz s0 s' x n cs x0 n0 c0:=by
  rcases h with h|⟨t,e,rfl,h1,h2⟩
  · exact .inl h
  · exact .inr ⟨t,e,rfl,(k t rfl).trans h1,h2⟩
theorem vN{s:AS}{t t' g:Nat}(h:t'≠t):(s.bw t g).own t'=s.own t':=by simp[AS.bw,aH,h]
theorem gh.bw{sz n n0 g tk:Nat}{s0 s:AS}{x x0:AV}{cs c0:List AV}(h:gh sz s0 s x n cs x0 n0 c0)(k:dy x≠some tk):gh sz s0 (s.bw tk g) x n cs x0 n0 c0:=
  h.keep fun t ht=>vN fun e=>k (e ▸ ht)
theorem gh.HT{sz n n0 g tk o:Nat}{s0 s:AS}{x x0:AV}{cs c0 ds:List AV}(h:gh sz s0 s x n cs x0 n0 c0)(k:dy x≠some tk):gh sz s0 ((s.bw tk g).set o ds) x n cs x0 n0 c0:=
  h.keep fun t ht=>by
    show(s.bw tk g).own t=_;exact vN fun e=>k (e ▸ ht)
theorem gh.new{sz n n0 t e:Nat}{s0 s:AS}{x0:AV}{cs c0:List AV}(h0:s0.own t=none)(h:s.own t=some e):gh sz s0 s (.sl sz n cs (.own t e)) n cs x0 n0 c0:=.inr ⟨t,e,rfl,h,h0⟩
theorem gh.fresh{sz n n0 tk:Nat}{s0 s:AS}{x x0:AV}{cs c0:List AV}(h:gh sz s0 s x n cs x0 n0 c0)(h0:dy x0=none)(k:s.own tk=none):dy x≠some tk:=by
  rcases h with⟨rfl,-⟩|⟨t,e,rfl,h1,h2⟩
  · rw[h0];intro h;cases h
  · intro q;simp only[dy,Option.some.injEq] at q;subst q;rw[k] at h1;cases h1
theorem gh.aB{sz n n0:Nat}{s0 s:AS}{x x0:AV}{cs c0:List AV}(h:gh sz s0 s x n cs x0 n0 c0)(k:x0.aB (.sl sz n0 c0 .any)):x.aB (.sl sz n cs .any):=by
  rcases h with⟨rfl,rfl,rfl⟩|⟨t,e,rfl,h1,h2⟩
  · exact k
  · exact AV.bQ
theorem oK{P:Program}{E:Env}{s:AS}{b6:AV→AS→Prop}{a T t1 t2 t3 t4 o off:Nat}{cs:List AV}{v:AV}(h1:E a=.ptr o off)(h2:s.aw o=some cs)(h3:P.cellsOf T≠0)(h4:oA P T (cs.drop off)=some v)
    (h:∃r s',(AV.eo [v,E t1,E t2,E t3,E t4]).aB r∧s'.le s∧b6 r s'):cf P [.cell a T,.tmp t1,.tmp t2,.tmp t3,.tmp t4] b6 .ret E s:=by
  simp only[cf,bt,bD,c7,h1,h2,if_neg h3,h4];exact h
theorem AV.Bj{l m:List AV}(h:fe.aB l m):(AV.eo l).aB (.eo m):=by
  intro G v hv;simp only[av] at hv⊢;obtain⟨vs,rfl,h1⟩:=hv;exact⟨vs,rfl,h G vs h1⟩
theorem eB{P:Program}{Γ:Nat→List AV}{N:Nat}{E:Env}{s:AS}{Q:Exit→Env→AS→Prop}{id:Nat}{L:List Oper}{y:Code}
    (h:∀K:Env→AS→Prop,(∀E s,JS P Γ N y Q E s→K E s)→AY P Γ N L.toArray L K E s):JS P Γ N (.seq (.region id L.toArray false) y) Q E s:=
  dp fun K hK=>awp_reg_end fun K2 aX=>h K2 fun E s k=>aX E s (hK E s k)
end Go.AM
