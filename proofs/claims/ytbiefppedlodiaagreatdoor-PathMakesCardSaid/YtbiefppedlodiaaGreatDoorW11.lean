/- Contracts of functions, each walked once; each theorem states its conditions. -/
import Derived.Test.YtbiefppedlodiaaGreatDoorAMp6
import Derived.Test.YtbiefppedlodiaaGreatDoorW1
import Derived.Test.YtbiefppedlodiaaGreatDoorW10
import Derived.Test.YtbiefppedlodiaaGreatDoorW7
import Derived.Test.YtbiefppedlodiaaGreatDoorAMp5
import Derived.Test.YtbiefppedlodiaaGreatDoorW6
import Derived.Test.YtbiefppedlodiaaGreatDoorW4
import Derived.Test.YtbiefppedlodiaaGreatDoorW2
import Derived.Test.YtbiefppedlodiaaGreatDoorAMp7
open Bool renaming and_eq_true -> ar
open Int renaming toNat_natCast -> aw
open List renaming all_eq_true -> av, drop -> aM, getD -> ba, getElem?_eq_getElem -> ae, getElem?_take -> aC, getElem_mem -> bd, length_drop -> bY, mem_append -> cd, mem_cons -> bM, mem_map -> bJ, mem_range -> bq, range -> aq, replicate_succ -> au, replicate_zero -> cb, take -> aZ
open Nat renaming le_refl -> aF, pow_mod -> dz, zero_le -> ax
open Option renaming getD_some -> bn
open Option.some renaming injEq -> aL
open UInt8 renaming ofNat -> aD
set_option linter.unusedSimpArgs false
set_option linter.unusedVariables false
open Nat renaming reduceLT -> Na, reduceLeDiff -> Nb, reduceEqDiff -> Nc, reduceAdd -> Nk, reduceMul -> Nf, reducePow -> Ng, reduceSub -> Nh, reduceBEq -> Nz
open Int renaming reduceLT -> Za, reduceLE -> Zb, reduceToNat -> Zc
open And renaming intro -> Ai
open Go.AM renaming ashift -> Qa, aconv -> Qb, aindexAddr -> Qc, aindex -> Qd, aslice -> Qe, abuiltin -> Qf, awp_reg_seq -> wS, awp_reg_end -> wE, awp_seq_k -> wK, awp_cond_k -> wC
open Go.AM.AV renaming cells -> Qg, one -> Qh
set_option maxRecDepth 100000
set_option maxHeartbeats 8000000
namespace Go.Proofs.YtbiefppedlodiaaGreatDoor
open Go Go.AM Go.Proofs Tryz
variable{Γ:Nat->List AV}
def zb(n:Nat):Prop:=2<=n∧n<=2305843009213693949
instance(n:Nat):Decidable (zb n):=by unfold zb;infer_instance
theorem DR{n:Nat}(h:zb n):(decide (2<=(n:Int))&&decide ((n:Int)<=2305843009213693949))=true:=by
 obtain⟨h1,h2⟩:=h;simp only[ar,decide_eq_true_eq];omega
theorem H3(a:Nat):a%PP<2^64:=by have:=gX a;have:=Ke;omega
def jv(draw:List UInt8):Nat:=3^gp draw%PP
def mj(kO:Nat)(draw:List UInt8):List UInt8:=Hpke.sec (kO^gp draw%PP) (jv draw) kO
def jx(kO:Nat)(info beside text draw:List UInt8):List UInt8:=Aes.iF (Hpke.hk (mj kO draw) info) (Hpke.hn (mj kO draw) info) beside text
def vA(key ot:Nat):List UInt8:=Hpke.sec (ot^key%PP) ot (3^key%PP)
def tO(key ot:Nat)(text info beside:List UInt8):List UInt8:=nW (Hpke.hk (vA key ot) info) (Hpke.hn (vA key ot) info) beside text
def tP(key ot:Nat)(text info beside:List UInt8):Nat:=nX (Hpke.hk (vA key ot) info) (Hpke.hn (vA key ot) info) beside text
theorem Sy(jg:Γ 0=jZ Sha.H0)(hG:Γ 1=Sha.K.map wV)(kO:Nat)(hp:zb kO)(info beside text draw:List UInt8)(hi:info.length<=60000)(hb:beside.length<=2^30)(ht:text.length<=2^30)(hd:draw.length<=2^36)(s:AS):
  aI prog Γ 107 [.v (.int .u64 kO),dm info .any,dm beside .any,dm text .any,dm draw .any] s (.ka [.agg [.v (.int .u64 (jv draw)),dm (jx kO info beside text draw) .any],.v (.int .i64 ((0:Nat):Int))]):=by
 refine xH func107 ntmps107 results107 ?_;have Kl:kO<2^64:=(by have:=hp.2;omega);have hke:=wc draw;have c1:=fun s=>tN (Γ:=Γ) jg hG draw hd s;have c2:=fun s=>kW (Γ:=Γ) (gp draw) oM s;have c3:=fun s=>uk (Γ:=Γ) (gp draw) kO oM Kl s;have c4:=fun s=>BG (Γ:=Γ) jg hG (kO^gp draw%PP) (jv draw) kO info (H3 _) Kl hi s;have sD:=M6 (mj kO draw) info hi;have Gt:=M7 (mj kO draw) info hi;have c5:=fun s=>M3 (Γ:=Γ) jg hG (Hpke.hk (mj kO draw) info) (Hpke.hn (mj kO draw) info) beside text hb ht s;simp only[show DJ (Hpke.hk (mj kO draw) info) (Hpke.hn (mj kO draw) info) beside text=jx kO info beside text draw from by unfold DJ;rw[if_pos ⟨sD,Gt⟩];rfl,show DK (Hpke.hk (mj kO draw) info) (Hpke.hn (mj kO draw) info)=0 from by unfold DK;rw[if_pos ⟨sD,Gt⟩]] at c5;simp only[show Hpke.sec (kO^gp draw%PP) (jv draw) kO=mj kO draw from rfl] at c4;simp only[show 3^gp draw%PP=jv draw from rfl] at c2;generalize jx kO info beside text draw=z at *
 generalize Hpke.hk (mj kO draw) info=k at *
 generalize Hpke.hn (mj kO draw) info=n at *
 generalize kO^gp draw%PP=sh at *
 generalize jv draw=f at *
 generalize gp draw=e at *
 refine jQ fun K hK=>?_;intro o ho;refine hK _ _<|UK fun K hK K hK=>?_;refine b6 (gz kO _) ?_;rintro r s1 ⟨rfl,rfl⟩;refine jV (DR hp) hK ?_;clear hK K;refine gW ?_;refine hK _ _<|jK (c1 _) ?_;rintro s2 rfl;refine jK (c2 _) ?_;rintro s3 rfl;refine jQ fun K hK=>?_;refine b6 (c3 _) ?_;rintro r s4 ⟨rfl,rfl⟩;refine jM ?_;refine b6 (c4 _) ?_;rintro r s5 ⟨rfl,rfl⟩;refine jR hK ?_;refine Q3 fun K hK=>?_;refine hK _ _<|jK (c5 _) ?_;rintro s6 rfl;refine wK fun K hK=>jB (show(((0:Nat):Int) != 0)=false from rfl) ?_;refine gW ?_;refine hK _ _<|jA ?_;refine eF ?_;refine kn (o:=o) (off:=0) rfl (AS.bG _ _ _) (by rw[T.c78];decide) (by simp only[↓DN,Qa,Qb,Qc,Qd,Qe,Qf,Qg,Qh,seval,TT];rfl) ?_;exact⟨_,s,AV.dV.refl _,AS.dW (AS.le.refl s) ho _,rfl,rfl⟩
theorem H4(kO:Nat)(hp:zb kO)(info beside text draw:List UInt8)(hi:info.length<=60000)(hb:beside.length<=2^30)(ht:text.length<=2^30)(hd:draw.length<=2^36)(s:AS):
  dS prog Γ 58 [.v (.int .u64 kO),.v (.string ⟨info.toArray⟩),.v (.string ⟨beside.toArray⟩),.v (.string ⟨text.toArray⟩),.v (.string ⟨draw.toArray⟩)] s
   (fun r s'=>r=.ka [.agg [.v (.int .u64 (jv draw)),.v (.string ⟨(jx kO info beside text draw).toArray⟩)],.v (.int .i64 ((0:Nat):Int))]∧s'=s):=by
 refine fm func58 rfl ntmps58 results58 (by simp) ?_
 have Kl:kO<2^64:=by have:=hp.2;omega
 have hke:=wc draw
 have c1:=fun s=>nZ (Γ:=Γ) draw hd s
 have c2:=fun s=>lD (Γ:=Γ) (gp draw) (by omega) s
 have c3:=fun s=>za (Γ:=Γ) (gp draw) kO (by omega) Kl s
 have c4:=fun s=>DQ (Γ:=Γ) (kO^gp draw%PP) (jv draw) kO info (H3 _) Kl hi s
 have sD:=M6 (mj kO draw) info hi
 have Gt:=M7 (mj kO draw) info hi
 have c5:=fun s=>Fu (Γ:=Γ) (Hpke.hk (mj kO draw) info) (Hpke.hn (mj kO draw) info) beside text sD Gt hb ht s
 simp only[show Aes.iF (Hpke.hk (mj kO draw) info) (Hpke.hn (mj kO draw) info) beside text=jx kO info beside text draw from rfl] at c5
 simp only[show Hpke.sec (kO^gp draw%PP) (jv draw) kO=mj kO draw from rfl] at c4
 simp only[show 3^gp draw%PP=jv draw from rfl] at c2
 generalize jx kO info beside text draw=z at *
 generalize Hpke.hk (mj kO draw) info=k at *
 generalize Hpke.hn (mj kO draw) info=n at *
 generalize kO^gp draw%PP=sh at *
 generalize jv draw=f at *
 generalize gp draw=e at *
 refine wS fun K hK=>?_
 simp only[↓DN,Qa,Qb,Qc,Qd,Qe,Qf,Qg,Qh,reduceCtorEq,↓reduceIte,Na,Nb,Nc,Nk,Nf,Ng,Nh,Za,Zb,Zc,TT]
 intro o ho
 refine hK _ _ ?_;clear hK K
 refine wK fun K hK=>?_
 refine wS fun K hK=>?_
 simp only[↓DN,Qa,Qb,Qc,Qd,Qe,Qf,Qg,Qh,reduceCtorEq,↓reduceIte,Na,Nb,Nc,Nk,Nf,Ng,Nh,Za,Zb,Zc,TT]
 refine b6 (oP kO _) ?_
 rintro r s1 ⟨rfl,rfl⟩
 simp only[↓DM,eZ,DX,Nz,↓DN,Qa,Qb,Qc,Qd,Qe,Qf,Qg,Qh,reduceCtorEq,↓reduceIte,Na,Nb,Nc,Nk,Nf,Ng,Nh,Za,Zb,Zc,TT,DR hp]
 refine hK _ _ ?_;clear hK K
 refine wC fun X Y hX hY=>?_
 simp only[UP,DF,Nc,↓reduceIte,DB]
 refine hY ?_;clear hX hY X Y
 refine dX ?_
 refine hK _ _ ?_;clear hK K
 refine wK fun K hK=>?_
 refine wS fun K hK=>?_
 simp only[↓DN,Qa,Qb,Qc,Qd,Qe,Qf,Qg,Qh,reduceCtorEq,↓reduceIte,Na,Nb,Nc,Nk,Nf,Ng,Nh,Za,Zb,Zc,TT,decide_eq_false (show ¬(65535:Int)<(info.length:Int) by omega)]
 refine hK _ _ ?_;clear hK K
 refine wC fun X Y hX hY=>?_
 simp only[UP,DF,Nc,↓reduceIte,DB]
 refine hY ?_;clear hX hY X Y
 refine dX ?_
 refine hK _ _ ?_;clear hK K
 refine wS fun K hK=>?_
 simp only[↓DN,Qa,Qb,Qc,Qd,Qe,Qf,Qg,Qh,reduceCtorEq,↓reduceIte,Na,Nb,Nc,Nk,Nf,Ng,Nh,Za,Zb,Zc,TT]
 refine b6 (c1 _) ?_
 rintro r s2 ⟨rfl,rfl⟩
 simp only[↓DM,eZ,DX,Nz,↓DN,Qa,Qb,Qc,Qd,Qe,Qf,Qg,Qh,reduceCtorEq,↓reduceIte,Na,Nb,Nc,Nk,Nf,Ng,Nh,Za,Zb,Zc,TT]
 refine hK _ _ ?_;clear hK K
 refine wS fun K hK=>?_
 simp only[↓DN,Qa,Qb,Qc,Qd,Qe,Qf,Qg,Qh,reduceCtorEq,↓reduceIte,Na,Nb,Nc,Nk,Nf,Ng,Nh,Za,Zb,Zc,TT]
 refine b6 (c2 _) ?_
 rintro r s3 ⟨rfl,rfl⟩
 simp only[↓DM,eZ,DX,Nz,↓DN,Qa,Qb,Qc,Qd,Qe,Qf,Qg,Qh,reduceCtorEq,↓reduceIte,Na,Nb,Nc,Nk,Nf,Ng,Nh,Za,Zb,Zc,TT]
 refine hK _ _ ?_;clear hK K
 refine wS fun K hK=>?_
 simp only[↓DN,Qa,Qb,Qc,Qd,Qe,Qf,Qg,Qh,reduceCtorEq,↓reduceIte,Na,Nb,Nc,Nk,Nf,Ng,Nh,Za,Zb,Zc,TT]
 refine b6 (c3 _) ?_
 rintro r s4 ⟨rfl,rfl⟩
 simp only[↓DM,eZ,DX,Nz,↓DN,Qa,Qb,Qc,Qd,Qe,Qf,Qg,Qh,reduceCtorEq,↓reduceIte,Na,Nb,Nc,Nk,Nf,Ng,Nh,Za,Zb,Zc,TT]
 refine b6 (c4 _) ?_
 rintro r s5 ⟨rfl,rfl⟩
 simp only[↓DM,eZ,DX,Nz,↓DN,Qa,Qb,Qc,Qd,Qe,Qf,Qg,Qh,reduceCtorEq,↓reduceIte,Na,Nb,Nc,Nk,Nf,Ng,Nh,Za,Zb,Zc,TT]
 refine hK _ _ ?_;clear hK K
 refine wS fun K hK=>?_
 simp only[↓DN,Qa,Qb,Qc,Qd,Qe,Qf,Qg,Qh,reduceCtorEq,↓reduceIte,Na,Nb,Nc,Nk,Nf,Ng,Nh,Za,Zb,Zc,TT]
 refine b6 (c5 _) ?_
 rintro r s6 ⟨rfl,rfl⟩
 simp only[↓DM,eZ,DX,Nz,↓DN,Qa,Qb,Qc,Qd,Qe,Qf,Qg,Qh,reduceCtorEq,↓reduceIte,Na,Nb,Nc,Nk,Nf,Ng,Nh,Za,Zb,Zc,TT]
 refine hK _ _ ?_;clear hK K
 refine eF ?_
 refine kn (o:=o) (off:=0) (by simp only[dY,Nc,↓reduceIte]) (AS.bG _ _ _) (by rw[T.xbG];decide) (by simp only[↓DN,Qa,Qb,Qc,Qd,Qe,Qf,Qg,Qh,reduceCtorEq,↓reduceIte,Na,Nb,Nc,Nk,Nf,Ng,Nh,Za,Zb,Zc,TT];rfl) ?_
 exact⟨_,s,AV.dV.refl _,AS.dW (AS.le.refl s) ho _,rfl,rfl⟩
def DS(key ot:Nat):Prop:=zb ot∧1<=key∧key<=2305843009213693949
instance(key ot:Nat):Decidable (DS key ot):=by unfold DS;infer_instance
theorem Sz(jg:Γ 0=jZ Sha.H0)(hG:Γ 1=Sha.K.map wV)(key ot:Nat)(hk:DS key ot)(text info beside:List UInt8)(hi:info.length<=60000)(hb:beside.length<=2^30)(ht:text.length<=2^30)(s:AS):
  aI prog Γ 132 [.v (.int .u64 key),.agg [.v (.int .u64 ot),dm text .any],dm info .any,dm beside .any] s (.ka [dm (tO key ot text info beside) .any,.v (.int .i64 ((tP key ot text info beside:Nat):Int))]):=by
 refine xH func132 ntmps132 results132 ?_;obtain⟨hp,h1,h2⟩:=hk;have Kl:ot<2^64:=(by have:=hp.2;omega);have c2:=fun s=>kW (Γ:=Γ) key oM s;have c3:=fun s=>uk (Γ:=Γ) key ot oM Kl s;have c4:=fun s=>BG (Γ:=Γ) jg hG (ot^key%PP) ot (3^key%PP) info Kl (H3 _) hi s;have sD:=M6 (vA key ot) info hi;have Gt:=M7 (vA key ot) info hi;have c5:=fun s=>Cb (Γ:=Γ) jg hG (Hpke.hk (vA key ot) info) (Hpke.hn (vA key ot) info) beside text hb ht s;simp only[show Zt (Hpke.hk (vA key ot) info) (Hpke.hn (vA key ot) info) beside text=tO key ot text info beside from by unfold Zt;rw[if_pos ⟨sD,Gt⟩];rfl,show Zu (Hpke.hk (vA key ot) info) (Hpke.hn (vA key ot) info) beside text=tP key ot text info beside from by unfold Zu;rw[if_pos ⟨sD,Gt⟩];rfl] at c5;simp only[show Hpke.sec (ot^key%PP) ot (3^key%PP)=vA key ot from rfl] at c4;generalize tO key ot text info beside=z at *
 generalize tP key ot text info beside=y at *
 generalize Hpke.hk (vA key ot) info=k at *
 generalize Hpke.hn (vA key ot) info=n at *
 generalize ot^key%PP=sh at *
 generalize 3^key%PP=to at *
 refine ev 5 (by simp[fT]) ?_;intro K hK;refine jM ?_;intro o ho;refine hK _ _ o _ rfl ho ?_;clear hK K ho;refine UK fun K hK K hK=>?_;refine b6 (gz ot _) ?_;rintro r s1 ⟨rfl,rfl⟩;refine jV (Ai (DR hp) (Ai (dF (show ¬(key:Int)<1 by omega)) (dF (show ¬(2305843009213693949:Int)<(key:Int) by omega)))) hK ?_;clear hK K;refine gW ?_;refine hK _ _<|eB T.mixed [3,7,9] kM ?_;intro K hK;refine jM ?_;refine b6 (c3 _) ?_;rintro r s2 ⟨rfl,rfl⟩;refine jM ?_;refine b6 (c2 _) ?_;rintro r s3 ⟨rfl,rfl⟩;refine jM ?_;refine b6 (c4 _) ?_;rintro r s4 ⟨rfl,rfl⟩;refine jR hK ?_;refine Q3 fun K hK=>?_;refine hK _ _<|jK (c5 _) ?_;rintro s5 rfl;exact jJ
theorem SA(d:List UInt8):jv d=3^gp d%PP:=rfl
theorem SC(a b:Nat):(3^a%PP)^b%PP=(3^b%PP)^a%PP:=by
  rw[<-dz,<-dz,<-Nat.pow_mul,<-Nat.pow_mul,Nat.mul_comm]
theorem Km(k:Nat)(draw:List UInt8):vA k (jv draw)=mj (3^k%PP) draw:=by
  unfold vA mj jv;rw[SC]
theorem Zw(k:Nat)(info beside text draw:List UInt8):tO k (jv draw) (jx (3^k%PP) info beside text draw) info beside=text:=by
  unfold tO jx;rw[Km,DL]
theorem Zx(k:Nat)(info beside text draw:List UInt8):tP k (jv draw) (jx (3^k%PP) info beside text draw) info beside=0:=by
  unfold tP jx;rw[Km,DP]
def jc:List UInt8:=[112,97,116,104]
def um:List UInt8:=[110,111,100,101]
def BH:List UInt8:=[115,101,97,108]
def fw(d:List UInt8):Nat->List UInt8
 |0=>d
 |k+1=>Kdf.derive (fw d k) jc
def rJ(x:List UInt8):Nat:=gp (Kdf.derive x um)
theorem ml(x l:List UInt8):(Kdf.derive x l).length=32:=by
 rw[Kdf.derive,Kdf.label,BI,if_pos rfl];exact Kdf.ns _ _ _
theorem DU(d:List UInt8)(h:d.length<=2^36):∀k,(fw d k).length<=2^36
 |0=>h
 |k+1=>by rw[fw,ml];decide
theorem sQ(d:List UInt8)(k:Nat):(fw d (k+1)).length=32:=ml _ _
theorem H5(x:List UInt8):rJ x<2^64:=by have:=wc (Kdf.derive x um);unfold rJ;omega
theorem sx(jg:Γ 0=jZ Sha.H0)(mC:Γ 1=Sha.K.map wV)(x:List UInt8)(hx:x.length<=2^36)(s:AS):aI prog Γ 49 [dm x .any] s (.v (.int .u64 (rJ x:Nat))):=by
 refine xH func49 ntmps49 results49 ?_;have h1:=fun s=>qm (Γ:=Γ) jg mC x um hx dM s;have h2:=fun s=>tN (Γ:=Γ) jg mC (Kdf.derive x um) (by rw[ml];decide) s;obtain⟨k,hk⟩:∃k,k=rJ x:=⟨_,rfl⟩;rw[<-hk];rw[show gp (Kdf.derive x um)=k from hk.symm] at h2;generalize Kdf.derive x um=y at *
 unfold um at h1;refine jA ?_;refine jQ fun K hK=>?_;refine b6 (h1 _) ?_;rintro r s1 ⟨rfl,rfl⟩;refine jM ?_;refine b6 (h2 _) ?_;rintro r s2 ⟨rfl,rfl⟩;refine jR hK ?_;exact jJ
theorem AL(x:List UInt8)(hx:x.length<=2^36)(s:AS):aI prog Γ 55 [.v (.string ⟨x.toArray⟩)] s (.v (.int .u64 (rJ x:Nat))):=by
 refine xH func55 ntmps55 results55 ?_;have h1:=fun s=>pS (Γ:=Γ) x um hx dM s;have h2:=fun s=>nZ (Γ:=Γ) (Kdf.derive x um) (by rw[ml];decide) s;obtain⟨k,hk⟩:∃k,k=rJ x:=⟨_,rfl⟩;rw[<-hk];rw[show gp (Kdf.derive x um)=k from hk.symm] at h2;generalize Kdf.derive x um=y at *
 unfold um at h1;refine jA ?_;refine jQ fun K hK=>?_;refine b6 (h1 _) ?_;rintro r s1 ⟨rfl,rfl⟩;refine jM ?_;refine b6 (h2 _) ?_;rintro r s2 ⟨rfl,rfl⟩;refine jR hK ?_;exact jJ
theorem vB(jg:Γ 0=jZ Sha.H0)(mC:Γ 1=Sha.K.map wV)(d:List UInt8)(hd:d.length<=2^36)(n:Nat)(hn:n<=2^40)(s:AS):aI prog Γ 25 [dm d .any,.v (.int .i64 n)] s (dm (fw d (n+1)) .any):=by
 refine xH func25 ntmps25 results25 ?_;unfold dm;have e1:iY .i64 (n:Int) 1=((n+1:Nat):Int):=eK n oM;refine yd fun K hK=>?_;refine jB @e1 ?_;refine dH<|dU (fun E s2=>∃(i:Nat)(x:List UInt8),x=fw d i∧i<=n+1∧E 7=.v (.int .i64 i)∧E 6=.v (.int .i64 (n+1:Nat))∧E 0=.sl 1 x.length (x.map cU) .any∧s2=s)
  (fun E _=>match E 7 with |.v (.int _ i)=>n+1-i.toNat|_=>0) ?_ ?_
 ·exact⟨0,d,rfl,ax _,rfl,rfl,rfl,rfl⟩
 ·rintro E1 s2 ⟨i,x,hx,hi,g7,g6,g0,rfl⟩ -
  have hc:=DU d hd i;rw[<-hx] at hc;by_cases et:i<n+1
  ·have h1:=fun s=>qm (Γ:=Γ) jg mC x jc hc dM s;have h2:Kdf.derive x jc=fw d (i+1):=(by rw[hx];rfl);generalize Kdf.derive x jc=y at *
   unfold jc dm at h1;refine jB (Ai @g7 (Ai @g6 (Ai @dB (dT et)))) ?_;refine Ja fun K2 eH=>?_;refine eH _ _<|nF fun K3 eX=>?_;refine jU @g0 fun K hK=>?_;refine b6 (h1 _) ?_;rintro r s3 ⟨rfl,rfl⟩;refine jR hK ?_;clear hK K;refine eX _ _<|jD (Ai @g7 (eK i oM)) ?_;refine⟨⟨i+1,y,h2,et,rfl,g6,rfl,rfl⟩,?_⟩;simp only[g7,dY,↓reduceIte];omega
  ·obtain rfl:i=n+1:=oM;rw[<-hx] at hK;have h2:=fun s=>mn (Γ:=Γ) x s oM;unfold dm at h2;have fB:¬(n+1)<n+1:=oM;refine jB (Ai @g7 (Ai @g6 (Ai @dB (dF fB)))) ?_;refine Jb fun K2 eH=>?_;simp only[dJ,dn,if_true];refine hK _ _<|jS @g0 fun K hK=>?_;refine b6 (h2 _) ?_;rintro r s3 ⟨rfl,rfl⟩;refine jR hK ?_;exact jJ
theorem zc(d:List UInt8)(hd:d.length<=2^36)(n:Nat)(hn:n<=2^40)(s:AS):aI prog Γ 28 [.v (.string ⟨d.toArray⟩),.v (.int .i64 n)] s (.v (.string ⟨(fw d (n+1)).toArray⟩)):=by
 refine xH func28 ntmps28 results28 ?_;refine Q2 fun K hK=>?_;refine dU (fun E s2=>∃(i:Nat)(x:List UInt8),x=fw d i∧i<=n+1∧E 5=.v (.int .i64 i)∧E 1=.v (.int .i64 n)∧E 0=.v (.string ⟨x.toArray⟩)∧s2=s)
  (fun E _=>match E 5 with |.v (.int _ i)=>n+1-i.toNat|_=>0) ?_ ?_
 ·exact⟨0,d,rfl,ax _,rfl,rfl,rfl,rfl⟩
 ·rintro E1 s2 ⟨i,x,hx,hi,g5,g1,g0,rfl⟩ -
  have hc:=DU d hd i;rw[<-hx] at hc;refine wK fun K2 eH=>?_;by_cases et:i<n+1
  ·have h1:=fun s=>pS (Γ:=Γ) x jc hc dM s;have h2:Kdf.derive x jc=fw d (i+1):=(by rw[hx];rfl);generalize Kdf.derive x jc=y at *
   unfold jc at h1;have hle:((i:Nat):Int)<=(n:Int):=oM;refine jB (Ai @g5 (Ai @g1 (dT hle))) ?_;refine ue ?_;refine eH _ _<|nF fun K3 eX=>?_;refine jU @g0 fun K hK=>?_;refine b6 (h1 _) ?_;rintro r s3 ⟨rfl,rfl⟩;refine jR hK ?_;clear hK K;refine eX _ _<|jD (Ai @g5 (eK i oM)) ?_;refine⟨⟨i+1,y,h2,et,rfl,g1,rfl,rfl⟩,?_⟩;simp only[g5,dY,↓reduceIte];omega
  ·obtain rfl:i=n+1:=oM;rw[<-hx] at hK;have fB:¬((n+1:Nat):Int)<=(n:Int):=oM;refine jB (Ai @g5 (Ai @g1 (dF fB))) ?_;refine sI ?_;simp only[dJ,dn,if_true];refine hK _ _<|jB @g0 ?_;exact jJ
end Go.Proofs.YtbiefppedlodiaaGreatDoor
namespace Go.AM
structure fa where
  node:Int
  key:Nat
  deriving DecidableEq
def fa.cells(h:fa):List AV:=[.v (.int .i64 h.node),.v (.int .u64 h.key)]
def lT(l:List fa):AV:=.sl 2 l.length (eb fa.cells l) .any
theorem kQ{α:Type}(c:α->List AV)(a b:List α):eb c (a++b)=eb c a++eb c b:=by simp[eb]
end Go.AM
namespace Go.Proofs.YtbiefppedlodiaaGreatDoor
open Go Go.AM Go.Proofs Tryz
variable{Γ:Nat->List AV}
theorem w8(l:List fa)(hl:l.length<=2^61)(sp:Sp)(k:FuncId)(hk:b7 prog k=true)(gh:List AV)(P:fa->Bool)
  (hP:∀x∈l,∀s,dS prog Γ k (.agg x.cells::gh) s (fun r s'=>r=.v (.bool (P x))∧s'=s)) (s:AS):
  aI prog Γ 130 [.sl 2 l.length (eb fa.cells l) sp,.wm k gh] s (.v (.int .i64 (fZ (fun i=>P (l.getD i ⟨0,0⟩)) l.length 0))):=by
 refine xH func130 ntmps130 results130 ?_;obtain⟨Q,hQ⟩:∃Q:Nat->Bool,Q=fun i=>P (l.getD i ⟨0,0⟩):=⟨_,rfl⟩;rw[<-hQ];have Cc:=fun i(h:i<l.length)=>nv (c:=fa.cells) (k:=2) (fun _=>rfl) h;generalize eb fa.cells l=Y at *
 refine Q2 fun K hK=>?_;refine dU (fun E s2=>∃i:Nat,i<=l.length∧fZ Q (l.length-i) i=fZ Q l.length 0∧E 8=.v (.int .i64 i)∧E 7=.v (.int .i64 l.length)∧E 0=.sl 2 l.length Y sp∧E 1=.wm k gh∧s2=s)
  (fun E _=>match E 8 with |.v (.int _ i)=>l.length-i.toNat|_=>0) ?_ ?_
 ·exact⟨0,ax _,rfl,rfl,rfl,rfl,rfl,rfl⟩
 ·rintro E1 s2 ⟨i,hi,hf,g8,g7,g0,g1,rfl⟩ -
  by_cases et:i<l.length
  ·refine jB (Ai @g8 (Ai @g7 (Ai @dB (dT et)))) ?_;refine Ja fun K2 eH=>?_;refine eH _ _<|nF fun K3 eX=>?_;have EU:Q i=P l[i]:=(by rw[hQ];simp[ba,et]);have hc:=hP l[i] (bd et) s2;rw[<-EU] at hc;obtain⟨k',LO⟩:∃k',l.length-i=k'+1:=⟨l.length-i-1,oM⟩;have I5:l.length-(i+1)=k':=oM;rw[LO] at hf;have gO:=Cc i et;have gC:(0:Int)<=(i:Int):=oM;generalize l[i]=q at *
   unfold fa.cells at gO hc;refine jB @g8 ?_;refine jS (Ai @g1 (Ai @g0 (Ai @dB (Ai @et (Ai @gC @gO))))) fun K hK=>?_;refine⟨hk,?_⟩;refine b6 hc ?_;rintro r s3 ⟨rfl,rfl⟩;cases hq:Q i with
   |true=>
    refine jR hK ?_;clear hK K;refine mS ?_;rw[<-hf,pz hq];exact jW ⟨rfl,rfl⟩
   |false=>
    refine jR hK ?_;clear hK K;refine gW ?_;simp only[dn,dJ,if_true,if_false];refine eX _ _<|jD (Ai @g8 (eK i oM)) ?_;refine⟨⟨i+1,oM,by rw[I5,<-hf,pA hq],rfl,g7,g0,g1,rfl⟩,?_⟩;simp only[g8,dY,↓reduceIte];omega
  ·refine jB (Ai @g8 (Ai @g7 (Ai @dB (dF et)))) ?_;refine Jb fun K2 eH=>?_;simp only[dJ,dn,if_true];refine hK _ _ ?_;rw[show l.length-i=0 by omega] at hf;refine wq ?_;rw[<-hf];exact jW ⟨rfl,rfl⟩
theorem Fx(l:List fa)(hl:l.length<=2^61)(sp:Sp)(k:FuncId)(hk:b7 prog k=true)(gh:List AV)(P:fa->Bool)
  (hP:∀x∈l,∀s,dS prog Γ k (.agg x.cells::gh) s (fun r s'=>r=.v (.bool (P x))∧s'=s)) (uS:∀x∈l,P x=false) (s:AS):
  aI prog Γ 81 [.sl 2 l.length (eb fa.cells l) sp,.wm k gh] s (.sl 2 l.length (eb fa.cells l) sp):=by
 refine xH func81 ntmps81 results81 ?_;have Dw:=w8 (Γ:=Γ) l hl sp k hk gh P hP s;have hn:fZ (fun i=>P (l.getD i ⟨0,0⟩)) l.length 0= -1:=by
  rcases r3 (fun i=>P (l.getD i ⟨0,0⟩)) l.length 0 with⟨h,-⟩|⟨i,-,hi,hp,-,-⟩
  ·exact h
  ·have et:i<l.length:=oM;simp only[ba,et,ae,bn] at hp;rw[uS _ (bd et)] at hp;cases hp
 rw[hn] at Dw;generalize eb fa.cells l=Y at *
 refine jA ?_;refine jK Dw ?_;rintro s1 rfl;refine xKs fun K hK=>?_;exact jJ
theorem Cd(l:List fa)(h0:l.length≠0)(hl:l.length<=2^40)(s:AS):dS prog Γ 82 [lT l] s (fun r s'=>∃t,r=.sl 2 l.length (eb fa.cells l) (.own t 0)∧s.own t=none∧s'=s.eT t 0):=by
 refine xH func82 ntmps82 results82 ?_;have pL:(eb fa.cells l).all AV.one=true:=by
  rw[av];intro c hc;simp only[eb,List.mem_flatten,bJ] at hc;obtain⟨_,⟨n,-,rfl⟩,hc⟩:=hc;simp only[fa.cells,bM,List.not_mem_nil,or_false] at hc;rcases hc with rfl|rfl<;>rfl
 unfold lT;generalize eb fa.cells l=X at *
 refine yd fun K hK=>?_;refine jB @h0 ?_;refine gW ?_;refine hK _ _<|jS (Ai @h0 @pL) fun K hK=>?_;refine⟨oM,oM,fun t ht=>?_⟩;refine hK _ _<|jI ?_;exact jW ⟨t,rfl,ht,rfl⟩
end Go.Proofs.YtbiefppedlodiaaGreatDoor
namespace Go.AM
open Go
theorem VS:∀n<63,2*lo n+2^lv n=n+1∧2*hi n+1=n+2^lv n:=by decide+kernel
theorem VT:∀n<63,∀l<5,lv n=l+1->2^l<=n∧lv (n-2^l)=l∧lv (n+2^l)=l∧n+2^l<63:=by decide+kernel
def p5(x n:Nat):Prop:=n<x+2^lv n∧x<n+2^lv n
instance(x n:Nat):Decidable (p5 x n):=by unfold p5;infer_instance
theorem Ko{t:List cH}{skip:List Int}{n:Nat}{x:Int}(h:x∈p6 skip (nd t n) n):x=(n:Int)∧(nd t n).kind≠0:=by
  unfold p6 at h;split at h
  · rename_i hk;refine⟨by simpa using h,?_⟩;rcases hk with⟨hk,-⟩|hk<;>rw[hk]<;>decide
  · cases h
theorem Ox{t:List cH}(hr:eJ t){skip:List Int}{n:Nat}(hn:n<63)(ht:n<t.length){x:Int}(h:x∈n9 skip (nd t n).nS):∃m:Nat,x=(m:Int)∧m<t.length∧(nd t m).kind≠0∧p5 m n:=by
  unfold n9 at h;rw[bJ] at h;obtain⟨u,hu,rfl⟩:=h;rw[List.mem_filter] at hu;obtain⟨h1,h2,h3⟩:=(hr.2.1 n ht).1.2.2 u hu.1;obtain⟨h4,h5,h6⟩:=h3;unfold pr at h1 h2;rw[if_pos oM] at h1 h2;simp only[aw] at h1 h2;have VU:=VS n hn;have fB:=SE (t:=t) (i:=u.toNat) oM;refine⟨2*u.toNat,oM,fB,by rw[h6];decide,?_⟩;unfold p5;omega
theorem DV{t:List cH}(hr:eJ t)(skip:List Int):∀l n,lv n=l->n<63->n+2^l<=t.length->∀x∈lU t skip l n,∃m:Nat,x=(m:Int)∧m<t.length∧(nd t m).kind≠0∧p5 m n
  |0,n=>fun hl hn ht x h=>by
    simp only[lU] at h;rcases cd.1 h with h|h
    · obtain⟨rfl,hk⟩:=Ko h;exact⟨n,rfl,oM,hk,by unfold p5;rw[hl];omega⟩
    · exact Ox hr hn oM h
  |l+1,n=>fun hl hn ht x h=>by
    have hp:=Nat.two_pow_pos l;have SF:2^(l+1)=2^l+2^l:=(by rw[Nat.pow_succ];omega);have hl5:=rW n;simp only[lU] at h;split at h
    · obtain⟨k1,k2,k3,k4⟩:=VT n hn l oM hl;rcases cd.1 h with h|h
      · obtain⟨m,h1,h2,h3,h4⟩:=DV hr skip l (n-2^l) k2 oM oM x h;unfold p5 at h4;rw[k2] at h4;exact⟨m,h1,h2,h3,by unfold p5;rw[hl];omega⟩
      · obtain⟨m,h1,h2,h3,h4⟩:=DV hr skip l (n+2^l) k3 k4 oM x h;unfold p5 at h4;rw[k3] at h4;exact⟨m,h1,h2,h3,by unfold p5;rw[hl];omega⟩
    · rcases cd.1 h with h|h
      · obtain⟨rfl,hk⟩:=Ko h;exact⟨n,rfl,oM,hk,by unfold p5;rw[hl];omega⟩
      · exact Ox hr hn oM h
theorem P5:∀m≤5,∀n<2*2^m-1,n+2^lv n<=2*2^m-1:=by decide+kernel
theorem H6{t:List cH}(hr:eJ t)(skip:List Int){n:Nat}(ht:n<t.length){x:Int}(h:x∈ff t n skip):∃m:Nat,x=(m:Int)∧m<t.length∧(nd t m).kind≠0∧p5 m n:=by
  obtain⟨fN,nD⟩:Fit (ee t)∧t.length=2*ee t-1:=by
    rcases fA (t:=t) with h|h
    · exact absurd h hr.1
    · exact h
  have uK:=fN.le;unfold ff at h;rw[if_pos ⟨oM,oM,hr⟩,aw] at h;refine DV hr skip _ n rfl oM ?_ x h;obtain⟨m,hm,he⟩:=fN.pow;rw[nD,he];exact P5 m hm n (by rw[<-he];omega)
def SG:Bool:=(aq 6).all fun m=>(aq (2^m)).all fun leaf=>(aq (dR leaf (2^m)).length).all fun i=>(aq (2*2^m-1)).all fun u=>!decide (p5 u (fE (nodeAt leaf (2^m) i)))||decide (u∉dR leaf (2^m))
theorem Ks:SG=true:=by decide+kernel
theorem SH{leaf l:Nat}(hl:Fit l)(h:leaf<l){i:Nat}(hi:i<(dR leaf l).length){u:Nat}(hu:u<2*l-1)(hs:p5 u (fE (nodeAt leaf l i))):u∉dR leaf l:=by
  obtain⟨m,hm,rfl⟩:=hl.pow;have k:=Ks;unfold SG at k;have k1:=av.1 k m (bq.2 oM);have k2:=av.1 k1 leaf (bq.2 h);have k3:=av.1 k2 i (bq.2 hi);have k4:=av.1 k3 u (bq.2 hu);simpa[hs] using k4
def XW(leaf l own:Nat):Int:=fZ (fun i=>decide (lo ((dR leaf l).getD i 0)<=own∧own<=hi ((dR leaf l).getD i 0))) (dR leaf l).length 0
end Go.AM
namespace Go.Proofs.YtbiefppedlodiaaGreatDoor
open Go Go.AM Go.Proofs Tryz
variable{Γ:Nat->List AV}
theorem Fy(h:fa)(n:Int)(s:AS):aI prog Γ 131 [.agg h.cells,.ij [.v (.int .i64 n)]] s (.v (.bool (h.node==n))):=by
 refine xH func131 ntmps131 results131 ?_;obtain⟨hn,hk⟩:=h;simp only[fa.cells];refine ev 2 dM ?_;intro K hK;refine jM ?_;intro o1 h1;refine hK _ _ o1 _ rfl h1 ?_;clear hK K h1;refine jA ?_;exact jJ
theorem Kt(h:fa)(l:List Int)(hl:l.length<=2^61)(s:AS):aI prog Γ 83 [.agg h.cells,.ij [ea l .any]] s (.v (.bool (decide (h.node∈l)))):=by
 refine xH func83 ntmps83 results83 ?_;obtain⟨hn,hk⟩:=h;have hc:=fun s=>oc (Γ:=Γ) l hn hl s;simp only[fa.cells];refine ev 2 dM ?_;intro K hK;refine jM ?_;intro o1 h1;refine hK _ _ o1 _ rfl h1 ?_;clear hK K h1;refine jK (hc _) ?_;rintro s1 rfl;exact jJ
theorem Ku(hG:Γ 3=lQ.map uU)(x own:Int)(s:AS):aI prog Γ 78 [.v (.int .i64 x),.ij [.v (.int .i64 own)]] s (.v (.bool (lz x own))):=by
 refine xH func78 ntmps78 results78 ?_;have hc:=fun s=>w9 (Γ:=Γ) hG x own s;refine jA ?_;refine jK (hc _) ?_;rintro s1 rfl;exact jJ
theorem Kv(p:ia)(a i:Nat)(hi:a+i<p.steps.length)(hp:p.steps.length<=2^60)(s:AS):aI prog Γ 80 [.v (.int .i64 i),.ij p.cells,.ij [.v (.int .i64 a)]] s (.v (.int .u64 ((p.steps.getD (a+i) ⟨0,[]⟩).key:Nat))):=by
 refine xH func80 ntmps80 results80 ?_;obtain⟨pk,pp,ps⟩:=p;simp only at hi hp⊢;have gO:=nv (c:=ft.cells) (k:=2) (fun _=>rfl) hi;have Jg:ps.getD (a+i) ⟨0,[]⟩=ps[a+i]:=(by simp[ba,hi]);rw[Jg];simp only[ia.cells];generalize hY:eb ft.cells ps=Y at *
 generalize ps[a+i]=q at *
 obtain⟨qk,qs⟩:=q;unfold ft.cells at gO;have e1:iY .i64 (a:Int) (i:Int)=((a+i:Nat):Int):=(by rw[kh oM];rfl);have gC:(0:Int)<=((a+i:Nat):Int):=oM;have fB:((a+i:Nat):Int)<(ps.length:Int):=oM;refine jA ?_;refine jB (Ai @e1 (Ai @gC (Ai @fB @gO))) ?_;exact jJ
def ji(d:List UInt8)(i n:Nat):List UInt8:=Kdf.label d BH [aD i,aD n] 32
theorem Kw(d:List UInt8)(i n:Nat):(ji d i n).length<=32:=by
 unfold ji Kdf.label;split
 ·rw[Kdf.ns];decide
 ·exact ax _
theorem H7(jg:Γ 0=jZ Sha.H0)(mC:Γ 1=Sha.K.map wV)(d:List UInt8)(hd:d.length<=2^36)(i n:Nat)(hi:i<256)(hn:n<256)(s:AS):aI prog Γ 108 [dm d .any,.v (.int .i64 i),.v (.int .i64 n)] s (dm (ji d i n) .any):=by
 refine xH func108 ntmps108 results108 ?_;have hc:=fun s=>px (Γ:=Γ) jg mC d BH [aD i,aD n] 32 hd dM sM dM s;have EX:∀s,aI prog Γ 102 [dm d .any,.v (.string ⟨BH.toArray⟩),.sl 1 2 [.v (.int .u8 (gq .u8 (i:Int))),.v (.int .u8 (gq .u8 (n:Int)))] .new,.v (.int .i64 32)] s (.ka [dm (ji d i n) .any,.v (.bool (Kdf.fits BH [aD i,aD n] 32))]):=by
  intro s;rw[<-va,<-va];exact dS.mB (kj.dV.cons (AV.dV.refl _) (kj.dV.cons (AV.dV.refl _) (kj.dV.cons AV.fc (kj.dV.cons (AV.dV.refl _) kj.dV.nil)))) (hc s)
 clear hc;generalize ji d i n=y at *
 unfold dm BH at EX;unfold dm;refine jA ?_;refine wS fun K hK=>?_;simp only[↓DN,Qa,Qb,Qc,Qd,Qe,Qf,Qg,Qh,seval,TT,au,cb];refine b6 (EX _) ?_;rintro r s1 ⟨rfl,rfl⟩;refine jR hK ?_;refine jA ?_;exact jJ
def od(x:List UInt8):Nat:=3^rJ x%PP
def jl(x:List UInt8)(pT:List Nat):List fa:=(aq pT.length).map fun i=>⟨(pT.getD i 0:Nat),rJ (fw x i)⟩
def xM(x:List UInt8)(n:Nat)(kO:Nat->Nat):Bool:=(aq n).all fun i=>decide (od (fw x i)=kO i)
def vC(x:List UInt8)(pT:List Nat)(kO:Nat->Nat):List fa×List UInt8×Bool:=
 if xM x pT.length kO=true then(jl x pT,fw x pT.length,true) else([],[],false)
theorem rf(x:List UInt8)(pT:List Nat):(jl x pT).length=pT.length:=by simp[jl]
theorem Kx(x:List UInt8)(pT:List Nat){i:Nat}(h:i<pT.length):(jl x pT).take (i+1)=(jl x pT).take i++[⟨(pT.getD i 0:Nat),rJ (fw x i)⟩]:=by
 rw[List.take_succ_eq_append_getElem (by rw[rf];exact h)];simp[jl]
theorem BJ{x:List UInt8}{n:Nat}{kO:Nat->Nat}(h:∀j,j<n->od (fw x j)=kO j):xM x n kO=true:=by
 unfold xM;rw[av];intro i hi;rw[dT (h i (bq.1 hi))]
theorem H8{x:List UInt8}{n:Nat}{kO:Nat->Nat}{i:Nat}(hi:i<n)(h:od (fw x i)≠kO i):xM x n kO=false:=by
 unfold xM;rw[List.all_eq_false];exact⟨i,bq.2 hi,by simpa using h⟩
theorem FA(jg:Γ 0=jZ Sha.H0)(mC:Γ 1=Sha.K.map wV)(x:List UInt8)(hx:x.length<=2^36)(pT:List Nat)(hu:pT.length<=2^30)(k:FuncId)(hk:b7 prog k=true)(gh:List AV)(kO:Nat->Nat)
  (hp:∀i,i<pT.length->∀s,dS prog Γ k (.v (.int .i64 i)::gh) s (fun r s'=>r=.v (.int .u64 (kO i:Nat))∧s'=s)) (s:AS):
  dS prog Γ 74 [dm x .any,ea (ew pT) .any,.wm k gh] s (fun r s'=>r=.ka [lT (vC x pT kO).1,dm (vC x pT kO).2.1 .any,.v (.bool (vC x pT kO).2.2)]∧s'=s):=by
 refine fm func74 rfl ntmps74 results74 (by simp) ?_;obtain⟨R,hR⟩:∃R,R=vC x pT kO:=⟨_,rfl⟩;rw[<-hR];have hS:∀i,i<pT.length->(List.take 1 (List.drop i ((ew pT).map ed)))[0]? =some (AV.v (.int .i64 (pT.getD i 0:Nat))):=by
  intro i hi;simp[List.getElem?_take,ew,hi,ed]
 have hlen:=fh pT;obtain⟨L,hL⟩:∃L,L=jl x pT:=⟨_,rfl⟩;have Zy:=fun i(h:i<pT.length)=>Kx x pT h;rw[<-hL] at Zy;have hs:s.le s:=AS.le.refl _;have CQ:∀a b:AV,rF 2 [a,b]=[a,b]:=fun _ _=>rfl;unfold ea dm;rw[hlen];generalize ew pT=U at *
 refine jA ?_;refine jA ?_;refine wK fun K hK=>?_;refine jA ?_;refine dH ?_;refine dU (fun E s2=>∃(i:Nat)(y:List UInt8)(z:AV),i<=pT.length∧y=fw x i∧(∀j,j<i->od (fw x j)=kO j)∧E 15=.v (.int .i64 i)∧E 14=.v (.int .i64 pT.length)∧E 13=.sl 1 pT.length (U.map ed) .any∧E 0=.sl 1 y.length (y.map cU) .any∧E 2=.wm k gh∧E 9=z∧il 2 s s2 z i (eb fa.cells (L.take i))∧s.le s2)
  (fun E _=>match E 15 with |.v (.int _ i)=>pT.length-i.toNat|_=>0) ?_ ?_
 ·exact⟨0,x,eW,Nat.zero_le _,rfl,fun j h=>absurd h (Nat.not_lt_zero _),rfl,rfl,rfl,rfl,rfl,rfl,il.nil _ _ _,hs⟩
 ·rintro E1 s2 ⟨i,y,z,hi,hy,Jg,g15,g14,g13,g0,g2,g9,hz,hle⟩ -
  have hyl:=DU x hx i;rw[<-hy] at hyl;by_cases et:i<pT.length
  ·have fB:((i:Nat):Int)<((pT.length:Nat):Int):=(by omega);have gC:(0:Int)<=((i:Nat):Int):=(by omega);have hSi:=hS i et;have ir:=Zy i et;rw[<-hy] at ir;have c1:=fun s=>sx (Γ:=Γ) jg mC y hyl s;have c2:=fun s=>kW (Γ:=Γ) (rJ y) (H5 y) s;have c3:=hp i et;have c4:=fun s=>qm (Γ:=Γ) jg mC y jc hyl (by decide) s;have hy2:Kdf.derive y jc=fw x (i+1):=(by rw[hy];rfl);have hpb:od (fw x i)=3^rJ y%PP:=(by rw[<-hy];rfl);generalize hky:rJ y=ky at *
   generalize hpy:3^ky%PP=py at *
   generalize pT.getD i 0=u at *
   generalize Kdf.derive y jc=y2 at *
   unfold dm jc at c4;unfold dm at c1;refine jB (Ai @g15 (Ai @g14 (decide_eq_true fB))) ?_;refine wK fun K2 eH=>?_;refine jE ?_;refine dX ?_;refine eH _ _ ?_;clear eH K2;refine wK fun K3 eX=>?_;refine dH ?_;refine jB (Ai @g13 (Ai @g15 (Ai @fB (Ai @gC @hSi)))) ?_;refine jS @g0 fun K hK=>?_;refine b6 (c1 _) ?_;rintro r s3 ⟨rfl,rfl⟩;refine jR hK ?_;clear hK K;refine wK fun K4 jm=>?_;refine jS (Ai @g15 @g2) fun K hK=>?_;refine b6 (c2 _) ?_;rintro r s4 ⟨rfl,rfl⟩;refine jN (Ai @g15 @g2) ?_;refine⟨hk,?_⟩;refine b6 (c3 _) ?_;rintro r s5 ⟨rfl,rfl⟩;by_cases he:py=kO i
   ·have e1:((py:Int) != (kO i:Int))=false:=(by rw[he];simp);refine jV @e1 hK ?_;clear hK K;refine jF ?_;refine dX ?_;refine jm _ _ ?_;clear jm K4;refine wK fun K5 mE=>?_;have fu:∀(E:Env)(s6:AS)(z':AV),E 15=.v (.int .i64 i)->E 14=.v (.int .i64 pT.length)->E 13=.sl 1 pT.length (U.map ed) .any->E 0=.sl 1 y.length (y.map cU) .any->E 2=.wm k gh->E 9=z'->il 2 s s6 z' (i+1) (eb fa.cells (L.take (i+1)))->s.le s6->K5 E s6:=by
     intro E s6 z' f15 f14 f13 f0 f2 f9 fz Dx;refine mE _ _ ?_;clear mE K5;refine jU @f0 fun K hK=>?_;refine b6 (c4 _) ?_;rintro r s7 ⟨rfl,rfl⟩;refine jR hK ?_;clear hK K;refine eX _ _ ?_;clear eX K3;refine jD (Ai @f15 (eK i (by omega))) ?_;refine⟨⟨i+1,y2,z',et,hy2,?_,rfl,f14,f13,rfl,f2,f9,fz,Dx⟩,?_⟩
     ·intro j hj;by_cases e:j=i
      ·subst e;rw[hpb,he]
      ·exact Jg j (by omega)
     ·simp only[g15,dY,↓reduceIte];omega
    clear eX;rcases hz with⟨rfl,lu,yS⟩|⟨tk,ek,rfl,uM,zd⟩
    ·refine wE fun K hK=>?_;simp only[↓DN,Qa,Qb,Qc,Qd,Qe,Qf,Qg,Qh,reduceCtorEq,↓reduceIte,Na,Nb,Nc,Nk,Nf,Ng,Nh,Za,Zb,Zc,TT,g9,eW,CQ];intro tk uM;refine hK _ _ (fu _ _ (.sl 2 1 [.v (.int .i64 (u:Nat)),.v (.int .u64 (ky:Nat))] (.own tk 0)) g15 g14 g13 g0 g2 rfl ?_ ?_)
     ·refine .inr ⟨tk,0,?_,by simp[AS.eT],eC hle uM⟩;rw[ir,kQ,yS];subst lu;rfl
     ·exact AS.eE hle (eC hle uM) 0
    ·refine jU (Ai @g9 (Ai @uM @CQ)) fun K hK=>?_;refine⟨by omega,by omega,hK _ _ (fu _ _ (.sl 2 (i+1) (eb fa.cells (L.take i)++[.v (.int .i64 (u:Nat)),.v (.int .u64 (ky:Nat))]) (.own tk (ek+1))) g15 g14 g13 g0 g2 rfl ?_ ?_)⟩
     ·exact .inr ⟨tk,ek+1,by rw[ir,kQ];rfl,by simp[AS.eT],zd⟩
     ·exact AS.eE hle zd (ek+1)
   ·have e1:((py:Int) != (kO i:Int))=true:=by
     rw[bne_iff_ne];omega
    have hRn:R=([],[],false):=by
     rw[hR];unfold vC;rw[H8 et (by rw[hpb];exact he)];rfl
    refine jV @e1 hK ?_;clear hK K;refine jE ?_;refine jA ?_;refine jI ?_;rw[hRn];exact⟨_,_,AV.Af AV.eh AV.eh (AV.dV.refl _),hle,rfl,rfl⟩
  ·have fB:¬((i:Nat):Int)<((pT.length:Nat):Int):=(by omega);obtain rfl:i=pT.length:=(by omega);have hRg:R=(L,fw x pT.length,true):=by
    rw[hR,hL];unfold vC;rw[BJ Jg];rfl
   refine jB (Ai @g15 (Ai @g14 (decide_eq_false fB))) ?_;refine wK fun K2 eH=>?_;refine jF ?_;refine ep ?_;simp only[dJ,dn,if_true];refine hK _ _ ?_;clear hK eH K2 K;refine jB (Ai @g9 @g0) ?_;refine jI ?_;rw[hRg];rw[List.take_of_length_le (by rw[hL,rf];exact Nat.le_refl _)] at hz;have XX:L.length=pT.length:=(by rw[hL,rf]);unfold lT;simp only;rw[XX,<-hy];exact⟨_,_,AV.Af hz.dV (AV.dV.refl _) (AV.dV.refl _),hle,rfl,rfl⟩
theorem Zz(P:fa->Bool)(h:fa):fZ (fun i=>P ([h].getD i ⟨0,0⟩)) [h].length 0=if P h=true then 0 else -1:=by
 cases hp:P h<;>simp[fZ,hp]
theorem DW(jg:Γ 0=jZ Sha.H0)(mC:Γ 1=Sha.K.map wV)(S:ft)(wY:S.iJ.length<=2^40)(nodes:List Int)(hn:nodes.length<=2^40)(h:fa)(ctx:List UInt8)(DY:ctx.length<=2^30)(i0:Nat)(lu:i0<nodes.length)
  (he:nodes[i0]=h.node) (UN:∀j,(hj:j<nodes.length)->j<i0->nodes[j]≠h.node) (his:i0<S.iJ.length) (mR:DS h.key (S.iJ[i0]).ot) (nD:(S.iJ[i0]).text.length<=2^30) (s:AS):
  aI prog Γ 79 [.agg S.cells,ea nodes .any,lT [h],dm ctx .any] s (.ka [dm (tO h.key (S.iJ[i0]).ot (S.iJ[i0]).text jc ctx) .any,.v (.int .i64 ((tP h.key (S.iJ[i0]).ot (S.iJ[i0]).text jc ctx:Nat):Int))]):=by
 refine xH func79 ntmps79 results79 ?_;obtain⟨qk,qs⟩:=S;simp only at wY his mR nD⊢;have Dw:∀(n:Int)(s:AS),aI prog Γ 130 [.sl 2 [h].length (eb fa.cells [h]) .any,.wm 131 [.ij [.v (.int .i64 n)]]] s (.v (.int .i64 (if(h.node==n)=true then 0 else -1))):=fun n s=>by
  have:=w8 (Γ:=Γ) [h] sM .any 131 kM [.ij [.v (.int .i64 n)]] (fun x=>x.node==n) (fun x _ s=>Fy x n s) s;rwa [Zz (fun x=>x.node==n) h] at this
 have gO:=nv (c:=gg.cells) (k:=2) (fun _=>rfl) his;have VV:=nv (c:=fa.cells) (k:=2) (l:=[h]) (i:=0) (fun _=>rfl) sM;have SI:=fun s=>Sz (Γ:=Γ) jg mC h.key (qs[i0]).ot mR (qs[i0]).text jc ctx dM DY nD s;simp only[ft.cells];generalize eb gg.cells qs=Y at *
 generalize qs[i0]=q at *
 obtain⟨qf,qt⟩:=q;simp only at SI⊢;unfold gg.cells at gO;simp only at gO;have M8:∀s,aI prog Γ 132 [.v (.int .u64 h.key),.agg [.v (.int .u64 qf),dm qt .any],.sl 1 4 [.v (.int .u8 112),.v (.int .u8 97),.v (.int .u8 116),.v (.int .u8 104)] .new,dm ctx .any] s (.ka [dm (tO h.key qf qt jc ctx) .any,.v (.int .i64 ((tP h.key qf qt jc ctx:Nat):Int))]):=fun s=>
  dS.mB (kj.dV.cons (AV.dV.refl _) (kj.dV.cons (AV.dV.refl _) (kj.dV.cons (AV.fc (sp:=.new)) (kj.dV.cons (AV.dV.refl _) kj.dV.nil)))) (SI s)
 clear SI;generalize tO h.key qf qt jc ctx=RT at *
 generalize tP h.key qf qt jc ctx=RE at *
 obtain⟨Kb,pR⟩:=h;simp only[lT,List.length_singleton,Nat.zero_mul,List.drop_zero,List.getElem_cons_zero] at Dw VV M8 he UN⊢;generalize eb fa.cells [⟨Kb,pR⟩]=X at *
 unfold fa.cells at VV;simp only at VV;unfold ea dm;unfold dm at M8 gO;have h01:(0:Int)<((1:Nat):Int):=dM;refine ev 4 dM ?_;intro K hK;refine jM ?_;intro o1 h1;refine hK _ _ o1 _ rfl h1 ?_;clear hK K h1;refine Jc fun K hK=>?_;refine dU (fun E s2=>∃i:Nat,i<=i0∧E 15=.v (.int .i64 i)∧E 14=.v (.int .i64 nodes.length)∧E 13=.sl 1 nodes.length (nodes.map ed) .any∧E 2=.sl 2 1 X .any∧E 3=.sl 1 ctx.length (ctx.map cU) .any∧E 4=.ij [.v (.int .u64 qk),.sl 2 qs.length Y .any]∧s2=s)
  (fun E _=>match E 15 with |.v (.int _ i)=>nodes.length-i.toNat|_=>0) ?_ ?_
 ·exact⟨0,ax _,rfl,rfl,rfl,rfl,rfl,rfl,rfl⟩
 ·rintro E1 s2 ⟨i,hi,g15,g14,g13,g2,g3,g4,rfl⟩ -
  have Vj:i<nodes.length:=oM;have fB:((i:Nat):Int)<(nodes.length:Int):=oM;have gC:(0:Int)<=((i:Nat):Int):=oM;have hS:(aZ 1 (aM i (nodes.map ed)))[0]? =some (AV.v (.int .i64 nodes[i])):=by
   simp[aC,Vj,ed]
  have hb:=UN i Vj;have hic:=fun s=>Dw nodes[i] s;refine jB (Ai @g15 (Ai @g14 (dT fB))) ?_;refine Ja fun K2 eH=>?_;refine eH _ _<|nF fun K3 eX=>?_;refine ev 11 dM ?_;intro K4 jm;refine jN (Ai @g13 (Ai @g15 (Ai @fB (Ai @gC @hS)))) ?_;intro o2 q2;refine jm _ _ o2 _ rfl q2 ?_;clear jm K4 q2;refine jS @g2 fun K hK=>?_;refine b6 (hic _) ?_;rintro r s3 ⟨rfl,rfl⟩;by_cases hii:i<i0
  ·have gP:(Kb==nodes[i])=false:=by
    rw[beq_eq_false_iff_ne];exact fun k=>hb hii k.symm
   rw[gP];simp only[Bool.false_eq_true,if_false];refine jR hK ?_;clear hK K;refine xKv ?_;simp only[dn,dJ,if_true,if_false];refine eX _ _<|jD (Ai @g15 (eK i oM)) ?_;refine⟨⟨i+1,oM,rfl,g14,g13,g2,g3,g4,rfl⟩,?_⟩;simp only[g15,dY,↓reduceIte];omega
  ·obtain rfl:i=i0:=oM;have hee:(Kb==nodes[i])=true:=by
    rw[he];simp
   rw[hee];simp only[if_true];have pB:((i:Nat):Int)<(qs.length:Int):=oM;refine jR hK ?_;refine jA ?_;refine jE<|eB T.mixed [13] kM ?_;intro K hK;simp only[↓DM,eZ,DX,↓DN,Qa,Qb,Qc,Qd,Qe,Qf,Qg,Qh,seval,TT,g2,g3,g4,gC,pB,gO,VV,h01,au,cb];refine b6 (M8 _) ?_;rintro r s4 ⟨rfl,rfl⟩;refine jR hK ?_;exact jJ
theorem VW:∀m≤5,∀leaf<2^m,∀own<2^m,fZ (fun i=>lz ((ew (dR leaf (2^m))).getD i 0) (own:Nat)) (dR leaf (2^m)).length 0=XW leaf (2^m) own∧(own≠leaf->0<=XW leaf (2^m) own∧(XW leaf (2^m) own).toNat<(dR leaf (2^m)).length):=by decide+kernel
theorem xb4{leaf l own:Nat}(hl:Fit l)(h:leaf<l)(ho:own<l)(gP:own≠leaf):
    ∃a:Nat,a<(dR leaf l).length∧fZ (fun i=>lz ((ew (dR leaf l)).getD i 0) (own:Nat)) (ew (dR leaf l)).length 0=(a:Int)∧XW leaf l own=(a:Int):=by
  obtain⟨m,hm,rfl⟩:=hl.pow;obtain⟨h1,h2⟩:=VW m hm leaf h own ho;obtain⟨h3,h4⟩:=h2 gP;refine⟨(XW leaf (2^m) own).toNat,h4,?_,oM⟩;rw[fh,h1];omega
theorem VX{leaf l:Nat}(hl:Fit l)(h:leaf<l){i:Nat}(hi:i<(dR leaf l).length):(dR leaf l).getD i 0<2*l-1:=by
  have:=vv hl h _ (bd hi);simpa[ba,hi] using this.1
theorem M9(l:List Nat)(a:Nat):(ew (l.drop a)).map ed=((ew l).map ed).drop a:=by
  simp[ew,List.map_drop]
theorem Ky{t:List cH}{fresh:List Int}{up:Nat}{x:Int}(h:x∈DZ t fresh up):0<=x∧x<(ee t:Int)∧lz up x=true∧gE t x:=by
  unfold DZ H9 at h;simp only[List.mem_filter,bJ,bq,ar,decide_eq_true_eq] at h;obtain⟨⟨k,hk,rfl⟩,_,h2,h3⟩:=h;exact⟨oM,oM,h2,h3⟩
theorem Kz(t:List cH)(fresh:List Int)(up:Nat):oL (DZ t fresh up):=by
  refine P6 ?_ fun x hx=>?_
  · unfold DZ H9;refine List.Pairwise.filter _ ?_;rw[List.pairwise_map];exact(List.pairwise_lt_range).imp fun h=>oM
  · have:=Ky hx;have:=Ia t;omega
theorem rh{n:Nat}:lV n=true↔2<=n∧n<=2305843009213693949:=by
  unfold lV;rw[ar,decide_eq_true_iff,decide_eq_true_iff];omega
theorem ze{t:List cH}{fresh:List Int}{up k:Nat}{par:List UInt8}(hk:lV k=true)(hp:par.length=0∨par.length=32):(⟨2,[],k,par,DZ t fresh up⟩:cH).right:=
  (me rfl).2 ⟨rfl,⟨(rh.1 hk).1,(rh.1 hk).2,hp⟩,Kz t fresh up⟩
theorem xN(t:List cH)(leaf:Nat)(keys:List Nat)(fresh:List Int):∀i,(pC t leaf keys fresh i).2.length=0∨(pC t leaf keys fresh i).2.length=32
  |0=>.inl rfl
  |i+1=>.inr (by simp only[pC];exact Sha.im _)
theorem Oy{keys:List Nat}(hk:∀k∈keys,lV k=true){j:Nat}(h:j<keys.length):lV (keys.getD j 0)=true:=by
  simp only[ba,ae h,bn];exact hk _ (bd h)
theorem SJ{t:List cH}{leaf:Nat}{keys:List Nat}{fresh:List Int}(hk:∀k∈keys,lV k=true)(hl:(dR leaf (ee t)).length<=keys.length):
    ∀i,i<=(dR leaf (ee t)).length->sy t leaf keys fresh i=pC t leaf keys fresh i
  |0,_=>rfl
  |i+1,h=>by
    have ih:=SJ hk hl (fresh:=fresh) i oM;have hb:=ze (t:=t) (fresh:=fresh) (up:=(dR leaf (ee t)).getD ((dR leaf (ee t)).length-1-i) 0) (Oy hk (j:=(dR leaf (ee t)).length-1-i) oM) (xN t leaf keys fresh i);simp only[sy,pC];rw[ih];unfold tQ;rw[if_pos ⟨hb,rfl⟩]
theorem Oz{t:List cH}{leaf key:Nat}{keys:List Nat}{fresh:List Int}(hk:∀k∈keys,lV k=true)(hl:(dR leaf (ee t)).length<=keys.length):iK t leaf key keys fresh=r7 t leaf key keys fresh:=by
  unfold iK r7;rw[SJ hk hl _ (aF _)]
def SK(t:List cH)(j:Nat)(n:cH):Prop:=j%2=1∧n.right∧n.kind=2∧∀u∈n.nS,0<=u∧u<(ee t:Int)∧lz j u=true∧gE t u
theorem OA{t:List cH}{leaf:Nat}(fN:Fit (ee t))(kS:leaf<ee t){keys:List Nat}{fresh:List Int}(hk:∀k∈keys,lV k=true)(hl:(dR leaf (ee t)).length<=keys.length):
    ∀i,i<=(dR leaf (ee t)).length->∀j,nd (pC t leaf keys fresh i).1 j=nd t j∨SK t j (nd (pC t leaf keys fresh i).1 j)
  |0,_,_=>.inl rfl
  |i+1,h,j=>by
    have ih:=OA fN kS hk hl (fresh:=fresh) i oM j;have hb:=ze (t:=t) (fresh:=fresh) (up:=(dR leaf (ee t)).getD ((dR leaf (ee t)).length-1-i) 0) (Oy hk (j:=(dR leaf (ee t)).length-1-i) oM) (xN t leaf keys fresh i);have hm:(dR leaf (ee t)).getD ((dR leaf (ee t)).length-1-i) 0∈dR leaf (ee t):=by
      simp only[ba,ae (show(dR leaf (ee t)).length-1-i<(dR leaf (ee t)).length by omega),bn];exact bd _
    have hp:=vv fN kS _ hm;simp only[pC];generalize (dR leaf (ee t)).getD ((dR leaf (ee t)).length-1-i) 0=up at *
    rw[D0];split
    · rename_i e;obtain⟨rfl,_⟩:=e;exact .inr ⟨hp.2.1,hb,rfl,fun u hu=>Ky hu⟩
    · exact ih
theorem Nd{t:List cH}(hr:eJ t){leaf key:Nat}(hm:gE t leaf)(hp:lV key=true){keys:List Nat}{fresh:List Int}(hk:∀k∈keys,lV k=true)(hl:(dR leaf (ee t)).length<=keys.length):eJ (r7 t leaf key keys fresh):=by
  obtain⟨⟨hL,hlen,h1,h2⟩,h3⟩:=hr.xgg;have kS:leaf<ee t:=by
    have:=hm.2.1;have:=hL.le;omega
  have hnd:=OA hL kS (fresh:=fresh) hk hl _ (aF _);have FB:=xN t leaf keys fresh (dR leaf (ee t)).length;have AB:=zg t leaf keys fresh (dR leaf (ee t)).length;have hev:∀a,nd (pC t leaf keys fresh (dR leaf (ee t)).length).1 (2*a)=nd t (2*a):=by
    intro a;rcases hnd (2*a) with h|h
    · exact h
    · have:=h.1;omega
  have hwd:∀j,nd (r7 t leaf key keys fresh) j=if j=2*leaf then{nd t (2*leaf) with key:=key,parent:=(pC t leaf keys fresh (dR leaf (ee t)).length).2} else nd (pC t leaf keys fresh (dR leaf (ee t)).length).1 j:=by
    intro j;unfold r7;simp only;rw[D0,hev];by_cases e:j=2*leaf
    · rw[if_pos ⟨e.symm,oM⟩,if_pos e]
    · rw[if_neg (fun q=>e q.1.symm),if_neg e]
  have hlw:(r7 t leaf key keys fresh).length=2*ee t-1:=by
    unfold r7;rw[List.length_set,AB,hlen]
  generalize (pC t leaf keys fresh (dR leaf (ee t)).length).1=W at *
  generalize (pC t leaf keys fresh (dR leaf (ee t)).length).2=par at *
  generalize r7 t leaf key keys fresh=T at *
  have LO:(nd t (2*leaf)).kind=1:=(by simpa using hm.2.2);have XY:∀a,(nd T (2*a)).kind=(nd t (2*a)).kind∧(nd T (2*a)).name=(nd t (2*a)).name:=by
    intro a;rw[hwd];by_cases e:2*a=2*leaf
    · rw[if_pos e,e];exact⟨rfl,rfl⟩
    · rw[if_neg e,hev];exact⟨rfl,rfl⟩
  refine(D1 hL hlw).2 ⟨fun i hi=>?_,fun a b Bi hbL ha hb=>?_,?_⟩
  · by_cases e:i=2*leaf
    · rw[hwd,if_pos e];have hq:=(lk LO).1 (h1 _ (show 2*leaf<2*ee t-1 by omega)).1;refine⟨(lk (by exact LO)).2 ⟨hq.1,hq.2.1,⟨(rh.1 hp).1,(rh.1 hp).2,FB⟩,hq.2.2.2⟩,.inr ⟨fun _=>oM,fun _=>LO⟩,?_⟩;have h0:(nd t (2*leaf)).nS=[]:=List.eq_nil_of_length_eq_zero hq.2.2.2;intro u hu;simp only[h0] at hu;cases hu
    · rw[hwd,if_neg e];rcases hnd i with h|⟨q1,q2,q3,q4⟩
      · rw[h];obtain⟨a1,a2,a3⟩:=h1 i hi;refine⟨a1,a2,fun u hu=>?_⟩;obtain⟨b1,b2,b3,b4,b5⟩:=a3 u hu;exact⟨b1,b2,b3,b4,by rw[(XY _).1];exact b5⟩
      · refine⟨q2,.inr ⟨fun h=>(by rw[q3] at h;cases h),fun h=>oM⟩,fun u hu=>?_⟩;obtain⟨b1,b2,b3,b4⟩:=q4 u hu;have hL2:=hL.le;unfold lz pr at b3;rw[if_pos oM,aw,decide_eq_true_iff] at b3;exact⟨b3.1,b3.2,b1,b2,by rw[(XY _).1];exact b4.2.2⟩
  · rw[(XY _).1] at ha hb;rw[(XY _).2,(XY _).2];exact h2 a b Bi hbL ha hb
  · rcases h3 with h3|⟨j,j1,j2,j3⟩
    · exact .inl h3
    · exact .inr ⟨j,j1,j2,by rw[(XY _).1];exact j3⟩
theorem VY(l:List fa):(eb fa.cells l).all AV.one=true:=by
 rw[av];intro c hc;simp only[eb,List.mem_flatten,bJ] at hc;obtain⟨_,⟨n,-,rfl⟩,hc⟩:=hc;simp only[fa.cells,bM,List.not_mem_nil,or_false] at hc;rcases hc with rfl|rfl<;>rfl
theorem Ib(jg:Γ 0=jZ Sha.H0)(mC:Γ 1=Sha.K.map wV)(hG:Γ 3=lQ.map uU)(t:List cH)(ht:iD t)(LV:t.length<=2^30)(hw:∀n∈t,sR n)(hr:eJ t)(lf:Nat)(hm:gE t lf)
  (p:ia) (hp:p.steps.length=(dR lf (ee t)).length) (ow:Nat) (hmo:gE t ow) (gP:ow≠lf) (h:fa) (ctx:List UInt8) (DY:ctx.length<=2^30) (fresh:List Int) (hf:fresh.length<=2^40) (hnf:(ow:Int)∉fresh) (VZ:(sA t lf p fresh).2=0)
  (a:Nat) (ha:XW lf (ee t) ow=(a:Int)) (nG:a<p.steps.length) (i0:Nat) (lu:i0<(ff t (fE (nodeAt lf (ee t) a):Nat) fresh).length) (he:(ff t (fE (nodeAt lf (ee t) a):Nat) fresh)[i0]=h.node)
  (UN:∀j,(hj:j<(ff t (fE (nodeAt lf (ee t) a):Nat) fresh).length)->j<i0->(ff t (fE (nodeAt lf (ee t) a):Nat) fresh)[j]≠h.node) (his:i0<(p.steps[a]).iJ.length) (wY:(p.steps[a]).iJ.length<=2^40) (mR:DS h.key ((p.steps[a]).iJ[i0]).ot)
  (nD:((p.steps[a]).iJ[i0]).text.length<=2^30) (xb6:h.node∉ew (dR lf (ee t))) (x:List UInt8) (hx:tO h.key ((p.steps[a]).iJ[i0]).ot ((p.steps[a]).iJ[i0]).text jc ctx=x) (hE:tP h.key ((p.steps[a]).iJ[i0]).ot ((p.steps[a]).iJ[i0]).text jc ctx=0)
  (xgj:x.length=32) (QY:xM x ((dR lf (ee t)).drop a).length (fun i=>(p.steps.getD (a+i) ⟨0,[]⟩).key)=true) (s:AS):
  aI prog Γ 27 [eA t,.v (.int .i64 lf),.agg p.cells,.v (.int .i64 ow),lT [h],dm ctx .any,ea fresh .any] s (.ka [lT (h::jl x ((dR lf (ee t)).drop a)),dm (fw x ((dR lf (ee t)).length-a)) .any,.v (.int .i64 0)]):=by
 refine xH func27 ntmps27 results27 ?_;obtain⟨fN,xbZ⟩:Fit (ee t)∧t.length=2*ee t-1:=by
  rcases fA (t:=t) with h|h
  ·exact absurd h hr.1
  ·exact h
 have uK:=fN.le;have kS:lf<ee t:=by
  have:=hm.2.1;omega
 have how:ow<ee t:=by
  have:=hmo.2.1;omega
 have Cu:=kV fN kS;have SN:=fun s=>xa (Γ:=Γ) jg mC hG t ht LV hw lf p oM fresh hf s;rw[VZ] at SN;have rI:=fun s=>ri (Γ:=Γ) t ht.1 ow s;rw[dT hmo] at rI;have V0:=fun s=>oc (Γ:=Γ) fresh (ow:Nat) oM s;rw[dF hnf] at V0;have jf:=fun s=>oe (Γ:=Γ) hG t ht s;rw[if_pos hr] at jf;have oA:=fun s=>qi (Γ:=Γ) hG lf (ee t) fN kS s;have JB:=fun s=>og (Γ:=Γ) hG lf (ee t) fN kS s;have iz:=fun s=>oQ (Γ:=Γ) hG t ht (fE (nodeAt lf (ee t) a):Nat) fresh oM s;obtain⟨a',-,ZA,ou⟩:=xb4 fN kS how gP;obtain rfl:a'=a:=oM;have Dw:=fun s=>uo (Γ:=Γ) (ew (dR lf (ee t))) (by rw[fh];omega) 78 kM [.ij [.v (.int .i64 ow)]] (fun x=>lz x ow) (fun x _ s=>Ku hG x ow s) s;rw[ZA] at Dw;have XZ:=mZ hr fresh;have P7:(ff t (fE (nodeAt lf (ee t) a'):Nat) fresh).length<=2^40:=by
  unfold ff;split
  ·have h1:=XZ (lv (fE (nodeAt lf (ee t) a'):Int).toNat) (fE (nodeAt lf (ee t) a'):Int).toNat;have h2:=rW (fE (nodeAt lf (ee t) a'):Int).toNat;have h3:=Nat.pow_le_pow_right (show 0<2 by decide) h2;omega
  ·exact ax _
 have lJ:=fun s=>DW (Γ:=Γ) jg mC p.steps[a'] wY (ff t (fE (nodeAt lf (ee t) a'):Nat) fresh) P7 h ctx DY i0 lu he UN his mR nD s;rw[hx,hE] at lJ;have hps:p.steps.length=(dR lf (ee t)).length:=hp;have mQ:=fun s=>FA (Γ:=Γ) jg mC x oM ((dR lf (ee t)).drop a') (by rw[bY];omega) 80 kM [.ij p.cells,.ij [.v (.int .i64 a')]] (fun i=>(p.steps.getD (a'+i) ⟨0,[]⟩).key) (fun i hi s=>by
  rw[bY] at hi;exact Kv p a' i oM oM s) s
 have hct:vC x ((dR lf (ee t)).drop a') (fun i=>(p.steps.getD (a'+i) ⟨0,[]⟩).key)=(jl x ((dR lf (ee t)).drop a'),fw x ((dR lf (ee t)).length-a'),true):=by
  unfold vC;rw[if_pos QY,bY]
 rw[hct] at mQ;simp only at mQ;have AH:=fun s=>Cd (Γ:=Γ) [h] sM sM s;have X3:=fun tk s=>Fx (Γ:=Γ) [h] sM (.own tk 0) 83 kM [.ij [ea (ew (dR lf (ee t))) .any]] (fun y=>decide (y.node∈ew (dR lf (ee t)))) (fun y _ s=>Kt y _ (by rw[fh];omega) s)
  (fun y hy=>by rw[List.mem_singleton.1 hy];exact dF xb6) s
 have XX:=rf x ((dR lf (ee t)).drop a');rw[bY] at XX;have yS:(jl x ((dR lf (ee t)).drop a')).length≠0:=oM;have pL:=VY (jl x ((dR lf (ee t)).drop a'));have X4:lT (h::jl x ((dR lf (ee t)).drop a'))=.sl 2 (1+(jl x ((dR lf (ee t)).drop a')).length) (eb fa.cells [h]++eb fa.cells (jl x ((dR lf (ee t)).drop a'))) .any:=by
  rw[<-kQ];unfold lT;rw[List.length_cons,Nat.add_comm,List.singleton_append]
 have LG:(ew ((dR lf (ee t)).drop a')).length=(dR lf (ee t)).length-a':=(by rw[fh,bY]);have Gt:=fh (dR lf (ee t));have Xz:aM a' (aZ (dR lf (ee t)).length ((ew (dR lf (ee t))).map ed))=(ew ((dR lf (ee t)).drop a')).map ed:=by
  rw[M9,List.take_of_length_le (by rw[List.length_map,fh];exact aF _)]
 have Ni:(ew (gT lf (ee t))).length=(dR lf (ee t)).length:=(by simp[fh,gT]);have ZB:(aZ 1 (aM a' ((ew (gT lf (ee t))).map ed)))[0]? =some (AV.v (.int .i64 (fE (nodeAt lf (ee t) a'):Nat))):=by
  have hi:a'<(dR lf (ee t)).length:=oM;simp[aC,ew,gT,hi,ed]
 have np:=nv (c:=ft.cells) (k:=2) (fun _=>rfl) nG;rw[X4];obtain⟨pk,pp,ps⟩:=p;simp only[ia.cells] at *
 clear hct QY XZ P7 hE hx mR nD his wY UN he lu ZA ou ha hmo hm VZ xb6 X4 hw;generalize hY:eb ft.cells ps=Y at *
 generalize ps[a']=q at *
 obtain⟨qk,qs⟩:=q;unfold ft.cells at lJ np;simp only at lJ np;generalize ew (gT lf (ee t))=SD at *
 unfold eA ea at *
 unfold lT dm at *
 rw[LG] at mQ;rw[Gt] at Dw oA X3;generalize fE (nodeAt lf (ee t) a')=sd at *
 generalize ff t (sd:Nat) fresh=RT at *
 generalize fw x ((dR lf (ee t)).length-a')=y at *
 generalize jl x ((dR lf (ee t)).drop a')=CL at *
 generalize ew ((dR lf (ee t)).drop a')=U2 at *
 generalize dR lf (ee t)=P at *
 generalize ew P=U at *
 have iL:((a':Nat):Int)<=(P.length:Int):=oM;have rK:(0:Int)<=((a':Nat):Int):=oM;have mi:=Int.le_refl (P.length:Int);have xgk:((a':Nat):Int)<(ps.length:Int):=oM;have pB:((a':Nat):Int)<(SD.length:Int):=oM;have e1:((ow:Int)==(lf:Int))=false:=by
  rw[beq_eq_false_iff_ne];omega
 have e2:((x.length:Int) != 32)=false:=(by rw[xgj];rfl);have US:((0:Int) != 0)=false:=rfl;have e01:(((0:Nat):Int) != 0)=false:=rfl;refine nQ 9 10 dM dM dM ?_;intro K hK;refine jM ?_;intro o1 q1 o2 q2;refine hK _ _ o1 o2 _ _ rfl rfl q1 (by rw[AS.pj];exact q2) ?_;clear hK K q1 q2;refine wK fun K hK=>jK (SN _) ?_;rintro s1 rfl;refine jB @US ?_;refine gW ?_;refine hK _ _<|UK fun K hK K hK=>?_;refine b6 (rI _) ?_;rintro r s2 ⟨rfl,rfl⟩;refine jN @e1 ?_;refine b6 (V0 _) ?_;rintro r s3 ⟨rfl,rfl⟩;refine jR hK ?_;clear hK K;refine gW ?_;refine hK _ _<|jK (jf _) ?_;rintro s4 rfl;refine ev 20 dM ?_;intro K hK;refine jM ?_;refine b6 (oA _) ?_;rintro r s5 ⟨rfl,rfl⟩;refine jM ?_;refine b6 (JB _) ?_;rintro r s6 ⟨rfl,rfl⟩;refine jM ?_;intro o3 q3;refine hK _ _ o3 _ rfl q3 ?_;clear hK K q3;refine ev 22 dM ?_;intro K hK;refine jM ?_;refine b6 (Dw _) ?_;rintro r s7 ⟨rfl,rfl⟩;refine jM ?_;intro o4 q4;refine hK _ _ o4 _ rfl q4 ?_;clear hK K q4;refine eB T.mixed [11,14] kM ?_;intro K hK;refine jN (Ai @rK (Ai @xgk (Ai @np (Ai @pB @ZB)))) ?_;refine b6 (iz _) ?_;rintro r s8 ⟨rfl,rfl⟩;refine jM ?_;refine b6 (lJ _) ?_;rintro r s9 ⟨rfl,rfl⟩;refine jR hK ?_;refine wK fun K hK=>jB (Ai @e01 @US) ?_;refine gW ?_;refine hK _ _<|jS (Ai @iL (Ai @rK (Ai @mi (Ai @aw (Ai @Nat.mul_one @Xz))))) fun K hK=>?_;refine b6 (mQ _) ?_;rintro r Sj ⟨rfl,rfl⟩;refine jR hK ?_;refine wK fun K hK=>jB @e2 ?_;refine gW ?_;refine hK _ _<|jQ fun K hK=>?_;refine b6 (AH _) ?_;rintro r Sv ⟨tk,rfl,ir,rfl⟩;refine jM ?_;refine b6 (X3 tk _) ?_;rintro r X5 ⟨rfl,rfl⟩;refine jR hK ?_;refine jS (Ai @yS @pL) fun K hK=>?_;refine⟨oM,oM,hK _ _ ?_⟩;refine jI ?_;exact⟨_,_,AV.Af AV.fc (AV.dV.refl _) (AV.dV.refl _),AS.eE (AS.eE (AS.le.refl _) ir 0) ir 1,rfl,rfl⟩
def rj(t:List cH)(d ctx:List UInt8)(i n:Nat):gg:=⟨jv (ji d i n),jx (nd t n).key jc ctx (fw d (i+1)) (ji d i n)⟩
def kB(t:List cH)(d ctx:List UInt8)(i:Nat)(RT:List Int):ft:=⟨od (fw d (i+1)),RT.map fun n=>rj t d ctx i n.toNat⟩
def uq(d:List UInt8)(i:Nat)(n:Int):Bool:=lV (jv (ji d i n.toNat))
def stepG(d:List UInt8)(i:Nat)(RT:List Int):Bool:=lV (od (fw d (i+1)))&&RT.all (uq d i)
theorem SP{t:List cH}(hr:eJ t){m:Nat}(h:(nd t m).kind≠0):zb (nd t m).key:=by
 have hn:=hr.nd m;rcases oN hn with hk|hk|hk
 ·exact absurd hk h
 ·have:=((lk hk).1 hn).2.2.1;exact⟨this.1,this.2.1⟩
 ·have:=((me hk).1 hn).2.1;exact⟨this.1,this.2.1⟩
theorem SQ{s:AS}{Dk xO:Nat}{Z W:List AV}(q12:s.dD Dk=none)(FC:(if xO=Dk then some Z else s.dD xO)=none):
  xO≠Dk∧((s.set Dk Z).set xO W).dD Dk=some Z∧((s.set Dk Z).set xO W).dD xO=some W∧s.le ((s.set Dk Z).set xO W)∧s.dD xO=none:=by
 have gP:xO≠Dk:=(fun e=>by rw[if_pos e] at FC;cases FC);rw[if_neg gP] at FC;exact⟨gP,by rw[AS.cO _ (Ne.symm gP)];exact AS.bG _ _ _,AS.bG _ _ _,AS.dW (AS.dW (AS.le.refl s) q12 _) FC _,FC⟩
theorem none_le{s s2:AS}(h:s.le s2){o:Nat}(ho:s2.dD o=none):s.dD o=none:=by
 cases hx:s.dD o with
 |none=>rfl
 |some cs=>rw[h.dD o cs hx] at ho;cases ho
theorem rk{s s2:AS}(h:s.le s2){o:Nat}(ho:s.dD o=none)(cs:List AV):s.le (s2.set o cs):=AS.dW h ho cs
theorem Ic(jg:Γ 0=jZ Sha.H0)(mC:Γ 1=Sha.K.map wV)(hG:Γ 3=lQ.map uU)(t:List cH)(ht:iD t)(hr:eJ t)(i:Nat)(hi:i<256)(sd:Nat)(Ph:sd<t.length)
  (d ctx:List UInt8) (hd:d.length<=2^36) (DY:ctx.length<=2^30) (fresh:List Int) (hf:fresh.length<=2^40) (s:AS):
  dS prog Γ 48 [eA t,.v (.int .i64 i),.v (.int .i64 sd),dm d .any,dm ctx .any,ea fresh .any] s
   (fun r s'=>r=.ka [.agg (if stepG d i (ff t sd fresh)=true then kB t d ctx i (ff t sd fresh) else⟨0,[]⟩).cells,.v (.int .i64 (if stepG d i (ff t sd fresh)=true then 0 else 30))]∧s'=s):=by
 refine fm func48 rfl ntmps48 results48 (by simp) ?_;have hRm:∀x∈ff t sd fresh,∃m:Nat,x=(m:Int)∧m<t.length∧(nd t m).kind≠0∧p5 m sd:=fun x h=>H6 hr fresh Ph h;have P7:(ff t sd fresh).length<=2^40:=by
  unfold ff;split
  ·have h1:=mZ hr fresh (lv (sd:Int).toNat) (sd:Int).toNat;have h2:=rW (sd:Int).toNat;have h3:=Nat.pow_le_pow_right (show 0<2 by decide) h2;omega
  ·exact Nat.zero_le _
 have xgl:t.length<=63:=by
  rcases fA (t:=t) with h|h
  ·exact absurd h hr.1
  ·have:=h.1.le;omega
 have iz:=fun s=>oQ (Γ:=Γ) hG t ht sd fresh (by omega) s;have mj:=fun s=>vB (Γ:=Γ) jg mC d hd i (by omega) s;have wY:=sQ d i;have pR:=fun s=>sx (Γ:=Γ) jg mC (fw d (i+1)) (by omega) s;have KA:=fun s=>kW (Γ:=Γ) (rJ (fw d (i+1))) (H5 _) s;have SR:=fun n s=>gz (Γ:=Γ) n s;have xb8:=fun n(hn:n<256)s=>H7 (Γ:=Γ) jg mC d hd i n hi hn s;have Gw:=fun kO(hp:zb kO)sd(h:sd.length<=2^36)s=>Sy (Γ:=Γ) jg mC kO hp jc ctx (fw d (i+1)) sd (by decide) DY (by omega) h s;generalize ff t sd fresh=RT at *
 obtain⟨R,hR⟩:∃R,R=(if stepG d i RT=true then kB t d ctx i RT else⟨0,[]⟩):=⟨_,rfl⟩;obtain⟨RE,hRE⟩:∃RE,RE=(if stepG d i RT=true then(0:Int) else 30):=⟨_,rfl⟩;rw[<-hR,<-hRE];have mq:stepG d i RT=false->R=⟨0,[]⟩∧RE=30:=(fun h=>by rw[hR,hRE,h];exact⟨rfl,rfl⟩);have kX:stepG d i RT=true->R=kB t d ctx i RT∧RE=0:=(fun h=>by rw[hR,hRE,h];exact⟨rfl,rfl⟩);clear hR hRE;obtain⟨L,hL⟩:∃L,L=RT.map fun n=>rj t d ctx i n.toNat:=⟨_,rfl⟩;have hSS:kB t d ctx i RT=⟨od (fw d (i+1)),L⟩:=(by rw[hL];rfl);rw[hSS] at kX;have XX:L.length=RT.length:=(by rw[hL,List.length_map]);have Zy:∀k,(h:k<RT.length)->L.take (k+1)=L.take k++[rj t d ctx i (RT[k]).toNat]:=by
  intro k h;rw[List.take_succ_eq_append_getElem (by omega)];simp[hL]
 have xgm:∀k,(h:k<RT.length)->uq d i RT[k]=false->stepG d i RT=false:=by
  intro k h hb;unfold stepG;rw[Bool.and_eq_false_iff];right;rw[List.all_eq_false];exact⟨RT[k],List.getElem_mem h,by rw[hb];decide⟩
 have xb9:lV (od (fw d (i+1)))=true->(∀k,(h:k<RT.length)->uq d i RT[k]=true)->stepG d i RT=true:=by
  intro h1 h2;unfold stepG;rw[h1,Bool.true_and,List.all_eq_true];intro x hx;obtain⟨k,hk,rfl⟩:=List.mem_iff_getElem.1 hx;exact h2 k hk
 have xca:lV (od (fw d (i+1)))=false->stepG d i RT=false:=by
  intro h;unfold stepG;rw[h];rfl
 generalize hpk:od (fw d (i+1))=pk at *
 have ZC:3^rJ (fw d (i+1))%PP=pk:=hpk;rw[ZC] at KA;have hsc:∀m:Nat,rj t d ctx i m=⟨jv (ji d i m),jx (nd t m).key jc ctx (fw d (i+1)) (ji d i m)⟩:=fun _=>rfl;generalize fw d (i+1)=sec at *
 have CQ:∀a b:AV,rF 2 [a,b]=[a,b]:=fun _ _=>rfl;unfold ea at *
 unfold dm at *
 unfold eA at *
 refine jQ fun K hK=>?_;intro Dk q12;refine hK _ _ ?_;clear hK K;refine jK (mj _) ?_;rintro s1 rfl;refine jQ fun K hK=>?_;refine b6 (pR _) ?_;rintro r s2 ⟨rfl,rfl⟩;refine jM ?_;refine b6 (KA _) ?_;rintro r s3 ⟨rfl,rfl⟩;refine jM ?_;intro xO FC;refine hK _ _ ?_;clear hK K;obtain⟨gP,FD,Nj,hle,FC⟩:=SQ (W:=[.v (.int .u64 pk),.v (.slice none 0 0)]) q12 FC;generalize (s.set Dk [.v (.int .u64 0),.v (.slice none 0 0)]).set xO [.v (.int .u64 pk),.v (.slice none 0 0)]=s3 at *
 have fu:∀(E:Env)(s5:AS),stepG d i RT=false->s.le s5->s5.dD Dk=some [.v (.int .u64 0),.v (.slice none 0 0)]->E 12=.ptr Dk 0->E 13=.v (.int .i64 30)->fX prog (#[ResultVar.cell 12 76,ResultVar.tmp 13]:Array ResultVar).toList (fun r s'=>r=.ka [.agg R.cells,.v (.int .i64 RE)]∧s'=s) .ret E s5:=by
  intro E s5 hb ly ho f12 f13;obtain⟨rfl,rfl⟩:=mq hb;refine kn (o:=Dk) (off:=0) f12 ho (by rw[T.c76];decide) (by simp only[↓DN,Qa,Qb,Qc,Qd,Qe,Qf,Qg,Qh,reduceCtorEq,↓reduceIte,Na,Nb,Nc,Nk,Nf,Ng,Nh,Za,Zb,Zc,TT];rfl) ?_;rw[f13];exact⟨_,s,AV.gJ (AV.qS (kj.dV.cons (AV.dV.refl _) (kj.dV.cons AV.eh kj.dV.nil))) (AV.dV.refl _),ly,rfl,rfl⟩
 have Ce:=SR pk;obtain⟨q,hq⟩:∃q,q=lV pk:=⟨_,rfl⟩;have LW:(decide (2<=(pk:Int))&&decide ((pk:Int)<=2305843009213693949))=q:=hq.symm;rw[LW] at Ce;rw[<-hq] at xca xb9;refine wK fun K hK=>?_;refine jS @Nj fun K hK=>?_;refine b6 (Ce _) ?_;rintro r s4 ⟨rfl,rfl⟩;cases q with
 |false=>
  refine jR hK ?_;clear hK K;refine jE ?_;refine jB @FD ?_;refine eF ?_;try simp only[dJ,dn]
  exact fu _ _ (xca rfl) (rk hle q12 _) (AS.bG _ _ _) rfl rfl
 |true=>
  refine jR hK ?_;clear hK K;refine jF ?_;refine dX ?_;refine hK _ _ ?_;clear hK K;refine wK fun K hK=>?_;refine jK (iz _) ?_;rintro s5 rfl;refine dH ?_;refine dU (fun E s2=>∃(k:Nat)(z:AV),k<=RT.length∧(∀j,(h:j<RT.length)->j<k->uq d i RT[j]=true)∧E 37=.v (.int .i64 k)∧E 36=.v (.int .i64 RT.length)∧E 35=.sl 1 RT.length (RT.map ed) .any∧E 0=.sl 5 t.length (eb cH.cells t) .any∧E 1=.v (.int .i64 i)∧E 3=.sl 1 d.length (d.map cU) .any∧E 4=.sl 1 ctx.length (ctx.map cU) .any∧
    E 12=.ptr Dk 0∧E 14=.sl 1 sec.length (sec.map cU) .any∧E 15=.ptr xO 0∧s2.dD Dk=some [.v (.int .u64 0),.v (.slice none 0 0)]∧s2.dD xO=some [.v (.int .u64 pk),z]∧il 2 s s2 z k (eb gg.cells (L.take k))∧s.le s2)
   (fun E _=>match E 37 with |.v (.int _ k)=>RT.length-k.toNat|_=>0) ?_ ?_
  ·exact⟨0,eW,Nat.zero_le _,fun j _ h=>absurd h (Nat.not_lt_zero _),rfl,rfl,rfl,rfl,rfl,rfl,rfl,rfl,rfl,rfl,FD,Nj,il.nil _ _ _,hle⟩
  ·clear FD Nj hle;rintro E1 s6 ⟨k,z,hk,Jg,UR,XR,g35,g0,g1,g3,g4,g12,g14,g15,FD,Nj,hz,hle⟩ -
   by_cases sC:k<RT.length
   ·have fB:((k:Nat):Int)<((RT.length:Nat):Int):=(by omega);have gC:(0:Int)<=((k:Nat):Int):=(by omega);obtain⟨m,hm,hmt,JS,-⟩:=hRm RT[k] (List.getElem_mem sC);have hSi:(List.take 1 (List.drop k (RT.map ed)))[0]? =some (AV.v (.int .i64 (m:Nat))):=by
     simp[List.getElem?_take,sC,ed,hm]
    have ir:=Zy k sC;have hfb:=xgm k sC;have Jh:uq d i RT[k]=lV (jv (ji d i m)):=(by rw[hm];rfl);rw[hm,Int.toNat_natCast,hsc] at ir;have c1:=fun s=>xb8 m (by omega) s;have c2:=fun s=>Gw (nd t m).key (SP hr JS) (ji d i m) (by have:=Kw d i m;omega) s;have c3:=fun s=>SR (jv (ji d i m)) s;have gO:=gL hmt;have hkk:=Jg;generalize jv (ji d i m)=fr at *
    generalize jx (nd t m).key jc ctx sec (ji d i m)=tx at *
    generalize ji d i m=sd2 at *
    have c2':∀s,dS prog Γ 107 [.v (.int .u64 (nd t m).key),.sl 1 4 [.v (.int .u8 112),.v (.int .u8 97),.v (.int .u8 116),.v (.int .u8 104)] .new,.sl 1 ctx.length (ctx.map cU) .any,.sl 1 sec.length (sec.map cU) .any,.sl 1 sd2.length (sd2.map cU) .any] s
      (fun r s'=>r=.ka [.agg [.v (.int .u64 fr),.sl 1 tx.length (tx.map cU) .any],.v (.int .i64 ((0:Nat):Int))]∧s'=s):=fun s=>
     dS.mB (kj.dV.cons (AV.dV.refl _) (kj.dV.cons (AV.fc (sp:=.new)) (kj.dV.refl _))) (c2 s)
    clear c2 Jg;generalize nd t m=N at *
    obtain⟨n1,n2,n3,n4,n5⟩:=N;generalize eb cH.cells t=X at *
    unfold cH.cells at gO;simp only at c2';have pB:((m:Nat):Int)<((t.length:Nat):Int):=(by omega);have rK:(0:Int)<=((m:Nat):Int):=(by omega);have US:(((0:Nat):Int)==0)=true:=rfl;have e01:(((0:Nat):Int) != 0)=false:=rfl;refine jB (Ai @XR (Ai @UR (decide_eq_true fB))) ?_;refine wK fun K2 eH=>?_;refine jE ?_;refine dX ?_;refine eH _ _ ?_;clear eH K2;refine wK fun K3 eX=>?_;refine dH ?_;refine jB (Ai @g35 (Ai @UR (Ai @fB (Ai @gC @hSi)))) ?_;refine vp T.mixed [17,18] [(1012,.sl 1 sd2.length (sd2.map cU) .any),(1013,.ka [.agg [.v (.int .u64 fr),.sl 1 tx.length (tx.map cU) .any],.v (.int .i64 ((0:Nat):Int))])] [0,1,2,3,4,5,6,7,8,9,10,11,12,13,14,15,16,17,18,19] (by kernel_rfl) ?_;intro K hK;simp only[↓Cy,↓yN,↓tC,↓tE,Nat.reduceAdd,↓tD,nC,lO,uG,eZ,DX,Nat.reduceBEq,List.toList_toArray,List.map_cons,List.map_nil,ef,↓DN,Qa,Qb,Qc,Qd,Qe,Qf,Qg,Qh,reduceCtorEq,↓reduceIte,Na,Nb,Nc,Nk,Nf,Ng,Nh,Za,Zb,Zc,TT,g0,g1,g3,g4,g14,pB,rK,gO,List.replicate_succ,List.replicate_zero];refine Oq c1 (Oq c2' ?_);intro o ho;refine hK _ _ ?_;clear hK K;have xcd:xO≠o:=(fun e=>by subst e;rw[Nj] at ho;cases ho);have xce:Dk≠o:=(fun e=>by subst e;rw[FD] at ho;cases ho);have D2:=(AS.cO s6 xce [.v (.int .u64 fr),.sl 1 tx.length (tx.map cU) .any]).trans FD;have EV:=(AS.cO s6 xcd [.v (.int .u64 fr),.sl 1 tx.length (tx.map cU) .any]).trans Nj;have k18:=AS.bG s6 o [.v (.int .u64 fr),.sl 1 tx.length (tx.map cU) .any];have KB:s.le (s6.set o [.v (.int .u64 fr),.sl 1 tx.length (tx.map cU) .any]):=AS.dW hle (none_le hle ho) _;have kz:il 2 s (s6.set o [.v (.int .u64 fr),.sl 1 tx.length (tx.map cU) .any]) z k (eb gg.cells (L.take k)):=hz.own fun t e h _=>h;generalize s6.set o [.v (.int .u64 fr),.sl 1 tx.length (tx.map cU) .any]=s7 at *
    clear ho FD Nj hle hz xce xcd;refine wK fun K4 jm=>?_;refine jS (Ai @US @k18) fun K hK=>?_;refine b6 (c3 _) ?_;rintro r s8 ⟨rfl,rfl⟩;obtain⟨q2,KC⟩:∃q2,q2=lV fr:=⟨_,rfl⟩;have hq3:(decide (2<=(fr:Int))&&decide ((fr:Int)<=2305843009213693949))=q2:=KC.symm;rw[hq3];cases q2 with
    |false=>
     simp only[↓fM,↓fi,eZ,↓Cy,↓yN,↓tC,↓tE,Nat.reduceAdd,↓tD,nC,lO,uG,eZ,DX,Nat.reduceBEq,List.toList_toArray,List.map_cons,List.map_nil,ef,DX,Nat.reduceBEq,↓DN,Qa,Qb,Qc,Qd,Qe,Qf,Qg,Qh,reduceCtorEq,↓reduceIte,Na,Nb,Nc,Nk,Nf,Ng,Nh,Za,Zb,Zc,TT];refine hK _ _ ?_;clear hK K;refine jE ?_;refine jT fun K hK=>?_;refine hK _ _ (jm _ _ ?_);clear hK K jm K4;have e30:((30:Int) != 0)=true:=rfl;refine wK fun K5 mE=>?_;refine jB @e30 ?_;refine jE ?_;refine jB (Ai @g12 @D2) ?_;refine eF ?_;try simp only[dJ,dn]
     exact fu _ _ (hfb (by rw[Jh,<-KC])) (rk KB q12 _) (AS.bG _ _ _) g12 rfl
    |true=>
     refine jR hK ?_;clear hK K;refine jF ?_;refine dX ?_;refine jm _ _ ?_;clear jm K4;refine wK fun K5 mE=>?_;refine jB @e01 ?_;refine jF ?_;refine dX ?_;refine mE _ _ ?_;clear mE K5;have tB:∀(E:Env)(s9:AS)(z':AV),E 37=.v (.int .i64 k)->E 36=.v (.int .i64 RT.length)->E 35=.sl 1 RT.length (RT.map ed) .any->E 0=.sl 5 t.length X .any->E 1=.v (.int .i64 i)->E 3=.sl 1 d.length (d.map cU) .any->E 4=.sl 1 ctx.length (ctx.map cU) .any->
       E 12=.ptr Dk 0->E 14=.sl 1 sec.length (sec.map cU) .any->E 15=.ptr xO 0->s9.dD Dk=some [.v (.int .u64 0),.v (.slice none 0 0)]->s9.dD xO=some [.v (.int .u64 pk),z']->il 2 s s9 z' (k+1) (eb gg.cells (L.take (k+1)))->s.le s9->K3 E s9:=by
      intro E s9 z' f37 f36 f35 f0 f1 f3 f4 f12 f14 f15 j12 j15 jz Nl;refine eX _ _ ?_;clear eX K3;refine jD (Ai @f37 (eK k (by omega))) ?_;refine⟨⟨k+1,z',sC,?_,rfl,f36,f35,f0,f1,f3,f4,f12,f14,f15,j12,j15,jz,Nl⟩,?_⟩
      ·intro j hj P8;by_cases e:j=k
       ·subst e;rw[Jh,<-KC]
       ·exact hkk j hj (by omega)
      ·simp only[UR,dY,↓reduceIte];omega
     clear eX;rcases kz with⟨rfl,lu,yS⟩|⟨tk,ek,rfl,uM,zd⟩
     ·refine wE fun K hK=>?_;simp only[↓DN,Qa,Qb,Qc,Qd,Qe,Qf,Qg,Qh,reduceCtorEq,↓reduceIte,Na,Nb,Nc,Nk,Nf,Ng,Nh,Za,Zb,Zc,TT,g15,EV,k18,eW,CQ];intro tk uM;have D3:=eC KB uM;refine hK _ _ (tB _ _ (.sl 2 1 [.v (.int .u64 fr),.sl 1 tx.length (tx.map cU) .any] (.own tk 0)) UR XR g35 g0 g1 g3 g4 g12 g14 g15 ?_ ?_ ?_ ?_)
      ·rw[AS.cO _ (Ne.symm gP)];exact D2
      ·exact AS.bG _ _ _
      ·refine .inr ⟨tk,0,?_,by simp[AS.eT,AS.set],D3⟩;rw[ir,kQ,yS];subst lu;rfl
      ·exact AS.dW (AS.eE KB D3 0) FC _
     ·refine jU (Ai @g15 (Ai @EV (Ai @k18 (Ai @uM @CQ)))) fun K hK=>?_;refine⟨by omega,by omega,?_⟩;refine hK _ _ (tB _ _ (.sl 2 (k+1) (eb gg.cells (L.take k)++[.v (.int .u64 fr),.sl 1 tx.length (tx.map cU) .any]) (.own tk (ek+1))) UR XR g35 g0 g1 g3 g4 g12 g14 g15 ?_ ?_ ?_ ?_)
      ·rw[AS.cO _ (Ne.symm gP)];exact D2
      ·exact AS.bG _ _ _
      ·exact .inr ⟨tk,ek+1,by rw[ir,kQ];rfl,by simp[AS.eT,AS.set],zd⟩
      ·exact AS.dW (AS.eE KB zd (ek+1)) FC _
   ·have fB:¬((k:Nat):Int)<((RT.length:Nat):Int):=(by omega);obtain rfl:k=RT.length:=(by omega);obtain⟨rfl,rfl⟩:=kX (xb9 rfl fun j h=>Jg j h h);refine jB (Ai @XR (Ai @UR (decide_eq_false fB))) ?_;refine wK fun K2 eH=>?_;refine jF ?_;refine ep ?_;simp only[dJ,dn,if_true];refine hK _ _ ?_;clear hK eH K2 K;rw[List.take_of_length_le (by omega)] at hz;refine jS (Ai @g15 (Ai @g12 (Ai @Nj @FD))) fun K hK=>?_;refine⟨hz.one,hK _ _ ?_⟩;clear hK K;refine eF ?_;try simp only[dJ,dn]
    refine kn (o:=Dk) (off:=0) g12 (AS.bG _ _ _) (by rw[T.c76];decide) (by simp only[↓DN,Qa,Qb,Qc,Qd,Qe,Qf,Qg,Qh,reduceCtorEq,↓reduceIte,Na,Nb,Nc,Nk,Nf,Ng,Nh,Za,Zb,Zc,TT];rfl) ?_;unfold ft.cells;simp only;rw[XX];exact⟨_,s,AV.gJ (AV.qS (kj.dV.cons (AV.dV.refl _) (kj.dV.cons hz.dV kj.dV.nil))) (AV.dV.refl _),AS.dW hle q12 _,rfl,rfl⟩
end Go.Proofs.YtbiefppedlodiaaGreatDoor
namespace Go.AM
open Go
def eY:AV->Option Nat
  |.sl _ _ _ (.own t _)=>some t
  |_=>none
def gA(sz:Nat)(s0 s:AS)(x:AV)(n:Nat)(cs:List AV)(x0:AV)(n0:Nat)(c0:List AV):Prop:=
  (x=x0∧n=n0∧cs=c0)∨∃t e,x=.sl sz n cs (.own t e)∧s.own t=some e∧s0.own t=none
theorem gA.keep{sz n n0:Nat}{s0 s s':AS}{x x0:AV}{cs c0:List AV}(h:gA sz s0 s x n cs x0 n0 c0)(k:∀t,eY x=some t->s'.own t=s.own t):gA sz s0 s' x n cs x0 n0 c0:=by
  rcases h with h|⟨t,e,rfl,h1,h2⟩
  · exact .inl h
  · exact .inr ⟨t,e,rfl,(k t rfl).trans h1,h2⟩
theorem BK{s:AS}{t t' g:Nat}(h:t'≠t):(s.eT t g).own t'=s.own t':=by simp[AS.eT,dY,h]
theorem gA.eT{sz n n0 g tk:Nat}{s0 s:AS}{x x0:AV}{cs c0:List AV}(h:gA sz s0 s x n cs x0 n0 c0)(k:eY x≠some tk):gA sz s0 (s.eT tk g) x n cs x0 n0 c0:=
  h.keep fun t ht=>BK fun e=>k (e ▸ ht)
theorem gA.oB{sz n n0 g tk o:Nat}{s0 s:AS}{x x0:AV}{cs c0 ds:List AV}(h:gA sz s0 s x n cs x0 n0 c0)(k:eY x≠some tk):gA sz s0 ((s.eT tk g).set o ds) x n cs x0 n0 c0:=
  h.keep fun t ht=>by
    show(s.eT tk g).own t=_;exact BK fun e=>k (e ▸ ht)
theorem gA.new{sz n n0 t e:Nat}{s0 s:AS}{x0:AV}{cs c0:List AV}(h0:s0.own t=none)(h:s.own t=some e):gA sz s0 s (.sl sz n cs (.own t e)) n cs x0 n0 c0:=.inr ⟨t,e,rfl,h,h0⟩
theorem gA.fresh{sz n n0 tk:Nat}{s0 s:AS}{x x0:AV}{cs c0:List AV}(h:gA sz s0 s x n cs x0 n0 c0)(h0:eY x0=none)(k:s.own tk=none):eY x≠some tk:=by
  rcases h with⟨rfl,-⟩|⟨t,e,rfl,h1,h2⟩
  · rw[h0];intro h;cases h
  · intro q;simp only[eY,aL] at q;subst q;rw[k] at h1;cases h1
theorem gA.dV{sz n n0:Nat}{s0 s:AS}{x x0:AV}{cs c0:List AV}(h:gA sz s0 s x n cs x0 n0 c0)(k:x0.dV (.sl sz n0 c0 .any)):x.dV (.sl sz n cs .any):=by
  rcases h with⟨rfl,rfl,rfl⟩|⟨t,e,rfl,h1,h2⟩
  · exact k
  · exact AV.fc
theorem gA.one{sz n n0:Nat}{s0 s:AS}{x x0:AV}{cs c0:List AV}(h:gA sz s0 s x n cs x0 n0 c0)(k:x0.one=true):x.one=true:=by
  rcases h with⟨rfl,-⟩|⟨t,e,rfl,h1,h2⟩
  · exact k
  · rfl
theorem ur{P:Program}{E:Env}{s:AS}{fV:AV->AS->Prop}{a T t1 t2 t3 t4 o off:Nat}{cs:List AV}{v:AV}(h1:E a=.ptr o off)(h2:s.dD o=some cs)(h3:P.cellsOf T≠0)(h4:tY P T (cs.drop off)=some v)
    (h:∃r s',(AV.ka [v,E t1,E t2,E t3,E t4]).dV r∧s'.le s∧fV r s'):fX P [.cell a T,.tmp t1,.tmp t2,.tmp t3,.tmp t4] fV .ret E s:=by
  simp only[fX,fe,fq,iu,h1,h2,if_neg h3,h4];exact h
theorem AV.Gx{l m:List AV}(h:kj.dV l m):(AV.ka l).dV (.ka m):=by
  intro G v hv;simp only[dQ] at hv⊢;obtain⟨vs,rfl,h1⟩:=hv;exact⟨vs,rfl,h G vs h1⟩
theorem kC{P:Program}{Γ:Nat->List AV}{N:Nat}{E:Env}{s:AS}{Q:Exit->Env->AS->Prop}{id:Nat}{L:List Oper}{y:Code}
    (h:∀K:Env->AS->Prop,(∀E s,Q0 P Γ N y Q E s->K E s)->AY P Γ N L.toArray L K E s):Q0 P Γ N (.seq (.region id L.toArray false) y) Q E s:=
  fo fun K hK=>awp_reg_end fun K2 eH=>h K2 fun E s k=>eH E s (hK E s k)
end Go.AM
