/- Contracts of functions, each walked once; each theorem states its conditions. -/
import Derived.Test.YtbiefppedlodiaaGreatDoorAMp6
import Derived.Test.YtbiefppedlodiaaGreatDoorW1
import Derived.Test.YtbiefppedlodiaaGreatDoorW8
import Derived.Test.YtbiefppedlodiaaGreatDoorW7
import Derived.Test.YtbiefppedlodiaaGreatDoorAMp5
import Derived.Test.YtbiefppedlodiaaGreatDoorW6
import Derived.Test.YtbiefppedlodiaaGreatDoorW2
import Derived.Test.YtbiefppedlodiaaGreatDoorW3
import Derived.Test.YtbiefppedlodiaaGreatDoorW4
import Derived.Test.YtbiefppedlodiaaGreatDoorAMp7
set_option linter.unusedSimpArgs false
set_option linter.unusedVariables false
open Nat renaming reduceLT → Na, reduceLeDiff → Nb, reduceEqDiff → Nc, reduceAdd → Nk, reduceMul → Nf, reducePow → Ng, reduceSub → Nh, reduceBEq → Nz
open Int renaming reduceLT → Za, reduceLE → Zb, reduceToNat → Zc
open And renaming intro → Ai
open Go.AM renaming ashift → Qa, aconv → Qb, aindexAddr → Qc, aindex → Qd, aslice → Qe, abuiltin → Qf, awp_reg_seq → wS, awp_reg_end → wE, awp_seq_k → wK, awp_cond_k → wC
open Go.AM.AV renaming cells → Qg, one → Qh
set_option maxRecDepth 100000
set_option maxHeartbeats 8000000
namespace Go.Proofs.YtbiefppedlodiaaGreatDoor
open Go Go.AM Go.Proofs Tryz
variable{Γ:Nat→List AV}
theorem w8(key ax:List UInt8)(hk:key.length=48)(hn:ax.length=16)(s:AS):
  aj prog Γ 189 [al key .any,al ax .any,al [] .any] s (fun r s'=>r=al [] .any∧s'=s):=by
 refine aa func189 rfl ntmps189 results189 (by simp) ?_;have Nx:(key.take 16).length=16:=(by simp[hk]);have NJ:(List.take 16 (key.map ae)).length=16:=(by simp[hk]);have NK:(List.take 16 (key.map ae)).all AV.one=true:=(by rw[←List.map_take];exact cq _);have Bn:(ax.map ae).length=16:=(by rw[List.length_map,hn]);have Td:=cq ax;have NL:List.take 16 (ax.map ae)=ax.map ae:=List.take_of_length_le (by omega);have oZ:=FG ax hn;have uY:=fun s=>tZ (Γ:=Γ) [] s (by simp);unfold al at uY⊢;rw[hk,hn];refine jA ?_;refine jQ fun K hK=>?_;intro o7 DI o8 HF;obtain⟨Uv,Ke⟩:=AS.ff HF;rw[Sf];refine hK _ _ ?_;clear hK K;generalize mu:(s.set o7 (List.replicate 16 (bV 0))).set o8 (List.replicate 16 (bV 0))=s0 at *
 have j7:s0.aw o7=some (List.replicate 16 (bV 0)):=(by rw[←mu,AS.ao _ Uv.symm,AS.af]);have j8:s0.aw o8=some (List.replicate 16 (bV 0)):=(by rw[←mu];exact AS.af _ _ _);have hle:s.le s0:=(by rw[←mu];exact AS.aF (AS.aF (AS.le.refl s) DI _) Ke _);clear mu HF;have sQ:(List.replicate 16 (bV 0)).length=16:=(by simp);generalize hZ:List.replicate 16 (bV 0)=Z at *
 refine jB (Ai @j7 (Ai @sQ (Ai @NJ (Ai @NK (Ai (show(0:Int)≤((16:Nat):Int) from by decide) (Ai (show((16:Nat):Int)≤((16:Nat):Int) from by decide) (Ai (show ¬(((16:Nat):Int)=0) from by decide) (show min 48 16=16 from rfl)))))))) ?_;generalize gV:s0.set o7 (bp Z 0 (List.map ae (List.take 16 key)))=s1 at *
 have q8:s1.aw o8=some Z:=(by rw[←gV,AS.ao _ Uv];exact j8);have mw:s.le s1:=(by rw[←gV];exact AS.aF hle DI _);clear gV j7 j8 hle;refine jB (Ai @q8 (Ai @sQ (Ai @Bn (Ai @Td (Ai @NL (Ai (show(0:Int)≤((16:Nat):Int) from by decide) (Ai (show((16:Nat):Int)≤((16:Nat):Int) from by decide) (Ai (show ¬(((16:Nat):Int)=0) from by decide) (show min 16 16=16 from rfl))))))))) ?_;generalize nU:s1.set o8 (bp Z 0 (ax.map ae))=s2 at *
 have eW:s.le s2:=(by rw[←nU];exact AS.aF mw Ke _);clear nU q8 mw;have NM:(ax.drop 12).length=4:=(by simp[hn]);have ib:=fun s=>sg (Γ:=Γ) (ax.drop 12) s (by omega);unfold al at ib;rw[NM] at ib;refine wS fun K hK=>?_;simp only[↓DN,Qa,Qb,Qc,Qd,Qe,Qf,Qg,Qh,reduceCtorEq,↓reduceIte,Na,Nb,Nc,Nk,Nf,Ng,Nh,Za,Zb,Zc,TT,NL,hn,show(0:Int)≤12 from by decide,show(12:Int)≤((16:Nat):Int) from by decide,show((16:Nat):Int)≤((16:Nat):Int) from by decide];refine ad (ib _) ?_;rintro r s3 ⟨p,rfl,hp⟩;refine jR hK ?_;clear hK K;refine jQ fun K hK=>?_;refine ad (uc s2 s3 p _ hp) ?_;rintro r s4 ⟨rfl,F0⟩;refine jR hK ?_;clear hK K;have fM:s.le s4:=AS.le.trans eW F0.le;clear hp F0 eW ib;refine jK (uY _) ?_;rintro s5 rfl;have c1:dQ .i64 ((0:Nat):Int) 16=((16:Nat):Int):=gg 0 16 (by omega);have c2:dr .i64 ((16:Nat):Int) 1=((15:Nat):Int):=gP 16 1 (by omega) (by omega);have c3:kX .i64 ((15:Nat):Int) 16=((0:Nat):Int):=(by decide);refine wK fun K hK=>?_;refine wS fun K hK=>?_;simp only[↓DN,Qa,Qb,Qc,Qd,Qe,Qf,Qg,Qh,reduceCtorEq,↓reduceIte,Na,Nb,Nc,Nk,Nf,Ng,Nh,Za,Zb,Zc,TT,List.length_nil,c1,c2,c3,sA];refine hK _ _ ?_;clear hK K;clear c1 c2 c3;refine ag ?_;refine aD (fun E s6=>E 11=.sl 1 0 [] .any∧E 36=nV 0∧E 37=nV 0∧s6=s5)
  (fun E _=>0) ?_ ?_
 ·exact⟨rfl,rfl,rfl,rfl⟩
 ·rintro E1 s6 ⟨wM,e36,Ux,rfl⟩ -
  refine jB (Ai @e36 (Ai @Ux (decide_eq_false (show ¬((0:Nat):Int)<((0:Nat):Int) by decide)))) ?_;refine wK fun K2 aU=>?_;refine jF ?_;refine aC ?_;simp only[aA,aq,if_true];clear aU K2;refine hK _ _ ?_;clear hK K;refine jB @wM ?_;refine jI ?_;exact⟨_,s,AV.aE.refl _,fM,rfl,rfl⟩
theorem zt(key ax text:List UInt8)(hk:key.length=48)(hn:ax.length=16)(ht:text.length≤2^30)(s:AS):
  aj prog Γ 189 [al key .any,al ax .any,al text .any] s (fun r s'=>r=al (Aes.mask key ax text) .any∧s'=s):=by
 by_cases h0:text.length=0
 ·obtain rfl:=List.eq_nil_of_length_eq_zero h0;rw[show Aes.mask key ax []=[] from rfl];exact w8 key ax hk hn s
 ·exact wZ key ax text hk hn h0 ht s
theorem wk(n c:Nat):(((n:Nat):Int)==((c:Nat):Int))=decide (n=c):=by
 by_cases h:n=c
 ·subst h;simp
 ·rw[decide_eq_false h];simp;omega
theorem wm(key ax:List UInt8)(s:AS):
  aj prog Γ 188 [al key .any,al ax .any] s (fun r s'=>r=.v (.bool (decide (key.length=48∧ax.length=16)))∧s'=s):=by
 refine aa func188 rfl ntmps188 results188 (by simp) ?_;have e1:((key.length:Int)==48)=decide (key.length=48):=wk key.length 48;have e2:((ax.length:Int)==16)=decide (ax.length=16):=wk ax.length 16;by_cases h1:key.length=48
 ·rw[decide_eq_true h1] at e1;by_cases h2:ax.length=16
  ·rw[decide_eq_true h2] at e2;rw[decide_eq_true (⟨h1,h2⟩:key.length=48∧ax.length=16)];refine jA ?_;refine jB (Ai @e1 @e2) ?_;exact jJ
  ·rw[decide_eq_false h2] at e2;rw[decide_eq_false (fun h:key.length=48∧ax.length=16=>h2 h.2)];refine jA ?_;refine jB (Ai @e1 @e2) ?_;exact jJ
 ·rw[decide_eq_false h1] at e1;rw[decide_eq_false (fun h:key.length=48∧ax.length=16=>h1 h.1)];refine jA ?_;refine jB @e1 ?_;exact jJ
theorem FH(a b c d:List UInt8):gu [a,b,c,d]=[al a .any,al b .any,al c .any,al d .any]:=rfl
theorem zu(dU:Γ 0=eA Sha.H0)(hG:Γ 1=Sha.K.map wV)(key ax beside masked:List UInt8)(hk:key.length=48)(hn:ax.length=16)(hb:beside.length≤2^30)(hm:masked.length≤2^30)(s:AS):
  aj prog Γ 190 [al key .any,al ax .any,al beside .any,al masked .any] s (fun r s'=>r=al (Aes.tag key ax beside masked) .any∧s'=s):=by
 refine aa func190 rfl ntmps190 results190 (by simp) ?_;have hps:bm 4 (beside.length:Int) ([],false)=(be 4 beside.length,false):=by
  unfold bm;rw[if_pos ⟨by omega,by omega⟩];simp[ei]
 have DG:(key.drop 16).length=32:=(by simp[hk]);have FC:=fun s=>ov (Γ:=Γ) dU hG (key.drop 16) [be 4 beside.length,beside,ax,masked] .new (by omega) (by simp) (by simp[hn];omega) s;rw[show[be 4 beside.length,beside,ax,masked].flatten=be 4 beside.length++(beside++(ax++masked)) from by simp,FH] at FC;have kq:=Mac.mK (key.drop 16) (be 4 beside.length++(beside++(ax++masked)));rw[Uu];have Hs:(be 4 beside.length).length=4:=(by simp);generalize Mac.tag (key.drop 16) (be 4 beside.length++(beside++(ax++masked)))=T0 at *
 have eo:List.take 48 key=key:=List.take_of_length_le (by omega);refine jA ?_;refine jQ fun K hK=>?_;refine ad (qC s) ?_;rintro r s1 ⟨p,rfl,q1⟩;refine jR hK ?_;clear hK K;refine jQ fun K hK=>?_;refine ad (tX s s1 p ([],false) (beside.length:Int) (by omega) (by simp) q1) ?_;rintro r s2 ⟨rfl,q2⟩;rw[hps] at q2;refine jR hK ?_;clear hK K;refine jQ fun K hK=>?_;refine ad (iS s s2 p _ (by simp) q2) ?_;rintro r s3 ⟨rfl,rfl⟩;generalize be 4 beside.length=bh at *
 refine jR hK ?_;clear hK K;unfold al at FC;rw[DG] at FC;have xaD:∀x:AV,List.replicate 4 x=[x,x,x,x]:=fun _=>rfl;refine wS fun K hK=>?_;simp only[↓DN,Qa,Qb,Qc,Qd,Qe,Qf,Qg,Qh,reduceCtorEq,↓reduceIte,Na,Nb,Nc,Nk,Nf,Ng,Nh,Za,Zb,Zc,TT,hk,eo,xaD,show(0:Int)≤16 from by decide,show(16:Int)≤((48:Nat):Int) from by decide,show((48:Nat):Int)≤((48:Nat):Int) from by decide];refine ad (FC _) ?_;intro r s4 bB;have fM:s.le s4:=AS.le.trans q2.le bB.1;obtain⟨t,e,rfl⟩:=cv bB (by rw[←List.length_pos_iff,kq];decide);clear bB;refine jV (Ai @kq (Ai (show(0:Int)≤16 from by decide) (Ai (show(16:Int)≤((32:Nat):Int) from by decide) (show ¬((16:Int)=((32:Nat):Int)) from by decide)))) hK ?_;clear hK K;refine jI ?_;have xdU:(T0.take 16).length=16:=(by simp[kq]);refine⟨al (T0.take 16) .any,s,?_,fM,rfl,rfl⟩;unfold al;rw[xdU];exact AV.bN
def zw(key ax beside text:List UInt8):List UInt8:=if key.length=48∧ax.length=16 then Aes.dW key ax beside text else[]
def zx(key ax:List UInt8):Nat:=if key.length=48∧ax.length=16 then 0 else 2
def Uz(key ax beside z:List UInt8):List UInt8:=if key.length=48∧ax.length=16 then iU key ax beside z else[]
def UA(key ax beside z:List UInt8):Nat:=if key.length=48∧ax.length=16 then iV key ax beside z else 2
theorem oi(key ax beside text:List UInt8):(Aes.dW key ax beside text).length=text.length+16:=by
 rw[Aes.dW,List.length_append,Aes.nC,Aes.mK]
theorem HL(dU:Γ 0=eA Sha.H0)(hG:Γ 1=Sha.K.map wV)(key ax beside text:List UInt8)(hb:beside.length≤2^30)(ht:text.length≤2^30)(s:AS):
  aj prog Γ 155 [al key .any,al ax .any,al beside .any,al text .any] s (fun r s'=>r=.eu [al (zw key ax beside text) .any,.v (.int .i64 ((zx key ax:Nat):Int))]∧s'=s):=by
 refine aa func155 rfl ntmps155 results155 (by simp) ?_;refine jA ?_;refine wK fun K hK=>?_;refine jQ fun K hK=>?_;refine ad (wm key ax _) ?_;rintro r s1 ⟨rfl,rfl⟩;by_cases hf:key.length=48∧ax.length=16
 ·have h1:zw key ax beside text=Aes.dW key ax beside text:=(by unfold zw;rw[if_pos hf]);have h2:zx key ax=0:=(by unfold zx;rw[if_pos hf]);rw[decide_eq_true hf];obtain⟨hk,hn⟩:=hf;refine jR hK ?_;clear hK K;refine jF ?_;refine ab ?_;refine hK _ _ ?_;clear hK K;have sO:=Aes.nC key ax text;have kq:=Aes.mK key ax beside (Aes.mask key ax text);have c1:=fun s=>zt (Γ:=Γ) key ax text hk hn ht s;have c2:=fun s=>zu (Γ:=Γ) dU hG key ax beside (Aes.mask key ax text) hk hn hb (by omega) s;have I9:Aes.dW key ax beside text=Aes.mask key ax text++Aes.tag key ax beside (Aes.mask key ax text):=rfl;have c3:=fun s=>ly (Γ:=Γ) [Aes.mask key ax text,Aes.tag key ax beside (Aes.mask key ax text)] .new (by simp) (by simp;omega) s;rw[show[Aes.mask key ax text,Aes.tag key ax beside (Aes.mask key ax text)].flatten=Aes.dW key ax beside text from by rw[I9];simp,HA] at c3;have tG:=oi key ax beside text;clear I9;generalize Aes.dW key ax beside text=S0 at *
  generalize Aes.tag key ax beside (Aes.mask key ax text)=T0 at *
  generalize Aes.mask key ax text=M at *
  refine jK (c1 _) ?_;rintro s2 rfl;refine wS fun K hK=>?_;simp only[↓DN,Qa,Qb,Qc,Qd,Qe,Qf,Qg,Qh,reduceCtorEq,↓reduceIte,Na,Nb,Nc,Nk,Nf,Ng,Nh,Za,Zb,Zc,TT,List.replicate_succ,List.replicate_zero];refine ad (c2 _) ?_;rintro r s3 ⟨rfl,rfl⟩;simp only[↓DM,bE,DX,Nz,↓DN,Qa,Qb,Qc,Qd,Qe,Qf,Qg,Qh,reduceCtorEq,↓reduceIte,Na,Nb,Nc,Nk,Nf,Ng,Nh,Za,Zb,Zc,TT,List.replicate_succ,List.replicate_zero];refine ad (c3 _) ?_;intro r s4 bB;have hw:=bB.aE;have hle:=bB.1;obtain⟨t,e,rfl⟩:=cv bB (by rw[←List.length_pos_iff,tG];omega);refine jR hK ?_;clear hK K;refine jI ?_;rw[h1,h2];exact⟨_,s3,AV.da hw (AV.aE.refl _),hle,rfl,rfl⟩
 ·have h1:zw key ax beside text=[]:=(by unfold zw;rw[if_neg hf]);have h2:zx key ax=2:=(by unfold zx;rw[if_neg hf]);rw[decide_eq_false hf];refine jR hK ?_;clear hK K;refine jE ?_;refine jA ?_;refine jI ?_;rw[h1,h2];exact⟨_,_,AV.da AV.aM (AV.aE.refl _),AS.le.refl _,rfl,rfl⟩
theorem w9(dU:Γ 0=eA Sha.H0)(hG:Γ 1=Sha.K.map wV)(key ax beside z:List UInt8)(hb:beside.length≤2^30)(hz:z.length≤2^30)(s:AS):
  aj prog Γ 174 [al key .any,al ax .any,al beside .any,al z .any] s (fun r s'=>r=.eu [al (Uz key ax beside z) .any,.v (.int .i64 ((UA key ax beside z:Nat):Int))]∧s'=s):=by
 refine aa func174 rfl ntmps174 results174 (by simp) ?_;have p6:dr .i64 (z.length:Int) 16=(z.length:Int)-16:=bO (by omega);refine jA ?_;refine jB @p6 ?_;refine wK fun K hK=>?_;refine ag ?_;refine jQ fun K hK=>?_;refine ad (wm key ax _) ?_;rintro r s1 ⟨rfl,rfl⟩;by_cases hf:key.length=48∧ax.length=16
 ·have h1:Uz key ax beside z=iU key ax beside z:=(by unfold Uz;rw[if_pos hf]);have h2:UA key ax beside z=iV key ax beside z:=(by unfold UA;rw[if_pos hf]);rw[decide_eq_true hf];obtain⟨hk,hn⟩:=hf;refine jR hK ?_;clear hK K;refine jF ?_;by_cases PZ:z.length<16
  ·have h3:iU key ax beside z=[]:=(by unfold iU;rw[if_pos PZ]);have h4:iV key ax beside z=10:=(by unfold iV;rw[if_pos PZ]);refine jB (decide_eq_true (show(z.length:Int)-16<0 by omega)) ?_;refine jE ?_;refine jA ?_;refine jI ?_;rw[h1,h2,h3,h4];exact⟨_,_,AV.da AV.aM (AV.aE.refl _),AS.le.refl _,rfl,rfl⟩
  ·have xdV:(z.length:Int)-16=((z.length-16:Nat):Int):=(by omega);have htz:List.take z.length (z.map ae)=z.map ae:=List.take_of_length_le (by simp);have m0:(0:Int)≤((z.length-16:Nat):Int):=(by omega);have m1:((z.length-16:Nat):Int)≤(z.length:Int):=(by omega);have m2:(z.length:Int)≤(z.length:Int):=Int.le_refl _;have m3:z.length-(z.length-16)=16:=(by omega);rw[xdV];have kq:(z.take (z.length-16)).length=z.length-16:=(by rw[List.length_take];omega);have B7:(z.drop (z.length-16)).length=16:=(by rw[List.length_drop];omega);have c2:=fun s=>zu (Γ:=Γ) dU hG key ax beside (z.take (z.length-16)) hk hn hb (by omega) s;have c1:=fun s=>zt (Γ:=Γ) key ax (z.take (z.length-16)) hk hn (by omega) s;have c4:=fun s=>HB (Γ:=Γ) (Aes.tag key ax beside (z.take (z.length-16))) (z.drop (z.length-16)) (by rw[Aes.mK];decide) s;have UB:List.take z.length z=z:=List.take_length;unfold al at c1 c2 c4;rw[kq] at c1 c2;rw[B7] at c4;refine jB (decide_eq_false (show ¬((z.length-16:Nat):Int)<0 by omega)) ?_;refine jF ?_;refine bj T.mixed [6,10] (by kernel_rfl) ?_;intro K hK;simp only[↓DM,bE,DX,Nz,↓DN,Qa,Qb,Qc,Qd,Qe,Qf,Qg,Qh,reduceCtorEq,↓reduceIte,Na,Nb,Nc,Nk,Nf,Ng,Nh,Za,Zb,Zc,TT,m0,m1,m2,m3,htz,UB];refine ad (c2 _) ?_;rintro r s2 ⟨rfl,rfl⟩;simp only[↓DM,bE,DX,Nz,↓DN,Qa,Qb,Qc,Qd,Qe,Qf,Qg,Qh,reduceCtorEq,↓reduceIte,Na,Nb,Nc,Nk,Nf,Ng,Nh,Za,Zb,Zc,TT,m0,m1,m2,m3,htz,UB];refine ad (c4 _) ?_;rintro r s3 ⟨rfl,rfl⟩;by_cases ht:Aes.tag key ax beside (z.take (z.length-16))=z.drop (z.length-16)
   ·have h3:iU key ax beside z=Aes.mask key ax (z.take (z.length-16)):=(by unfold iU;rw[if_neg PZ,if_pos ht]);have h4:iV key ax beside z=0:=(by unfold iV;rw[if_neg PZ,if_pos ht]);rw[decide_eq_true ht];refine jR hK ?_;clear hK K;refine jF ?_;refine ab ?_;simp only[aq,aA,if_true,if_false];refine hK _ _ ?_;clear hK K;refine wS fun K hK=>?_;simp only[↓DN,Qa,Qb,Qc,Qd,Qe,Qf,Qg,Qh,reduceCtorEq,↓reduceIte,Na,Nb,Nc,Nk,Nf,Ng,Nh,Za,Zb,Zc,TT,m0,m1,m2,m3,htz,UB];refine ad (c1 _) ?_;rintro r s4 ⟨rfl,rfl⟩;refine jR hK ?_;clear hK K;refine jI ?_;rw[h1,h2,h3,h4];exact jW ⟨rfl,rfl⟩
   ·have h3:iU key ax beside z=[]:=(by unfold iU;rw[if_neg PZ,if_neg ht]);have h4:iV key ax beside z=14:=(by unfold iV;rw[if_neg PZ,if_neg ht]);rw[decide_eq_false ht];refine jR hK ?_;clear hK K;refine jE ?_;refine jA ?_;refine jI ?_;rw[h1,h2,h3,h4];exact⟨_,_,AV.da AV.aM (AV.aE.refl _),AS.le.refl _,rfl,rfl⟩
 ·have h1:Uz key ax beside z=[]:=(by unfold Uz;rw[if_neg hf]);have h2:UA key ax beside z=2:=(by unfold UA;rw[if_neg hf]);rw[decide_eq_false hf];refine jR hK ?_;clear hK K;refine jE ?_;refine jA ?_;refine jI ?_;rw[h1,h2];exact⟨_,_,AV.da AV.aM (AV.aE.refl _),AS.le.refl _,rfl,rfl⟩
theorem zy(key ax beside text:List UInt8):iU key ax beside (Aes.dW key ax beside text)=text:=by
  have hl:=oi key ax beside text;unfold iU;rw[if_neg (by omega)];have sO:=Aes.nC key ax text;have e1:(Aes.dW key ax beside text).take ((Aes.dW key ax beside text).length-16)=Aes.mask key ax text:=by
    rw[hl,Aes.dW,Nat.add_sub_cancel,List.take_append_of_le_length (by omega),List.take_of_length_le (by omega)]
  have e2:(Aes.dW key ax beside text).drop ((Aes.dW key ax beside text).length-16)=Aes.tag key ax beside (Aes.mask key ax text):=by
    rw[hl,Aes.dW,Nat.add_sub_cancel,List.drop_append_of_le_length (by omega),List.drop_eq_nil_of_le (by omega),List.nil_append]
  rw[e1,e2,if_pos rfl,Aes.J5]
theorem zz(key ax beside text:List UInt8):iV key ax beside (Aes.dW key ax beside text)=0:=by
  have hl:=oi key ax beside text;unfold iV;rw[if_neg (by omega)];have sO:=Aes.nC key ax text;have e1:(Aes.dW key ax beside text).take ((Aes.dW key ax beside text).length-16)=Aes.mask key ax text:=by
    rw[hl,Aes.dW,Nat.add_sub_cancel,List.take_append_of_le_length (by omega),List.take_of_length_le (by omega)]
  have e2:(Aes.dW key ax beside text).drop ((Aes.dW key ax beside text).length-16)=Aes.tag key ax beside (Aes.mask key ax text):=by
    rw[hl,Aes.dW,Nat.add_sub_cancel,List.drop_append_of_le_length (by omega),List.drop_eq_nil_of_le (by omega),List.nil_append]
  rw[e1,e2,if_pos rfl]
theorem sC(n:Nat)(hn:n<2^64)(s:AS):aj prog Γ 182 [.v (.int .u64 n)] s (fun r s'=>r=.v (.int .u64 (n%PP:Nat))∧s'=s):=by
 refine aa func182 rfl ntmps182 results182 (by simp) ?_;refine jA ?_;refine jA ?_;refine wK fun K hK=>?_;have hf:=HG n hn;unfold Dq at hf;simp only at hf;refine jA ?_;by_cases hc:(2305843009213693951:Int)≤dQ .u64 (mr .u64 n 2305843009213693951) (eU .u64 n 61)
 ·rw[if_pos hc] at hf;refine wC fun X Y hX hY=>?_;refine jP (Ai @DB @hc) ?_;refine hX ?_;clear hX hY X Y;refine jC ?_;refine hK _ _ ?_;clear hK K;refine jA ?_;refine jI ?_;exact jW ⟨by rw[hf],rfl⟩
 ·rw[if_neg hc] at hf;refine wC fun X Y hX hY=>?_;refine jP (Ai @DB @hc) ?_;refine hY ?_;clear hX hY X Y;refine ab ?_;refine hK _ _ ?_;clear hK K;refine jA ?_;refine jI ?_;exact jW ⟨by rw[hf],rfl⟩
theorem FI(x y:Nat)(hx:x<2^64)(hy:y<2^64)(s:AS):aj prog Γ 181 [.v (.int .u64 x),.v (.int .u64 y)] s
  (fun r s'=>r=.eu [.v (.int .u64 (x*y/18446744073709551616:Nat)),.v (.int .u64 (x*y%18446744073709551616:Nat))]∧s'=s):=by
 refine aa func181 rfl ntmps181 results181 (by simp) ?_;refine jA ?_;refine jA ?_;refine jA ?_;refine jA ?_;refine jA ?_;refine jA ?_;refine jA ?_;refine jA ?_;refine jA ?_;refine jA ?_;refine jA ?_;refine jA ?_;refine jI ?_;refine jW ⟨?_,rfl⟩;have x1:x/4294967296<4294967296:=(by omega);have y1:y/4294967296<4294967296:=(by omega);have x0:x%4294967296<4294967296:=(by omega);have y0:y%4294967296<4294967296:=(by omega);have b1:=ux x1 y1;have b2:=ux x1 y0;have b3:=ux x0 y1;have b4:=ux x0 y0;have key:=NF _ _ _ _ x1 x0 y1 y0;rw[show x/4294967296*4294967296+x%4294967296=x from by omega,show y/4294967296*4294967296+y%4294967296=y from by omega] at key;rw[vy x hx,vy y hy,nD,nD,xp _ _ (by omega:x%4294967296*(y%4294967296)<2^64),xp _ _ (by omega:x/4294967296*(y%4294967296)<2^64),
  xp _ _ (by omega:x%4294967296*(y/4294967296)<2^64),xp _ _ (by omega:x/4294967296*(y/4294967296)<2^64),NG,nD]
 generalize x/4294967296*(y/4294967296)=A at *
 generalize x/4294967296*(y%4294967296)=B at *
 generalize x%4294967296*(y/4294967296)=C at *
 generalize x%4294967296*(y%4294967296)=D at *
 rw[oB _ _ (by omega:B+D/4294967296<2^64),vy _ (by omega),oB _ _ (by omega:(B+D/4294967296)%4294967296+C<2^64),nD,nD,oB _ _ (by omega),oB _ _ (by omega),key]
theorem BV(a b:Nat)(ha:a<2^64)(hb:b<2^64)(s:AS):aj prog Γ 147 [.v (.int .u64 a),.v (.int .u64 b)] s (fun r s'=>r=.v (.int .u64 (a*b%PP:Nat))∧s'=s):=by
 refine aa func147 rfl ntmps147 results147 (by simp) ?_;have l1:=de a;have l2:=de b;have l3:=IX;have l4:=NH a b;refine jA ?_;refine jQ fun K hK=>?_;refine ad (sC a ha s) ?_;rintro r s' ⟨rfl,rfl⟩;refine jM ?_;refine ad (sC b hb s') ?_;rintro r s' ⟨rfl,rfl⟩;refine jM ?_;refine ad (FI (a%PP) (b%PP) (by omega) (by omega) s') ?_;rintro r s' ⟨rfl,rfl⟩;refine jR hK ?_;clear hK K;refine jS (QL _ l4) fun K hK=>?_;refine ad (sC (a%PP*(b%PP)%2305843009213693952+a%PP*(b%PP)/2305843009213693952) (by omega) s') ?_;rintro r s' ⟨rfl,rfl⟩;refine jR hK ?_;clear hK K;refine jI ?_;exact jW ⟨by rw[Kd,←Nat.mul_mod],rfl⟩
theorem BW(a n:Nat)(ha:a<2^64)(hn:n<2^64)(s:AS):aj prog Γ 103 [.v (.int .u64 a),.v (.int .u64 n)] s (fun r s'=>r=.v (.int .u64 (a^n%PP:Nat))∧s'=s):=by
 refine aa func103 rfl ntmps103 results103 (by simp) ?_;refine jA ?_;refine jA ?_;refine wK fun K hK=>?_;refine ag ?_;refine aD (fun E s1=>∃o b m:Nat,E 5=.v (.int .u64 o)∧E 0=.v (.int .u64 b)∧E 1=.v (.int .u64 m)∧o<PP∧b<2^64∧m<2^64∧o*b^m%PP=a^n%PP∧s1=s)
  (fun E _=>match E 1 with |.v (.int _ i)=>i.toNat|_=>0) ?_ ?_
 ·exact⟨1,a,n,by simp[aB],by simp[aB,bx],by simp[aB,bx],by decide,ha,hn,by simp,rfl⟩
 ·rintro E1 s1 ⟨o,b,m,h5,h0,h1,ho,hb,hm,hinv,rfl⟩ -
  have hPP:PP=2305843009213693951:=rfl;refine wK fun K2 aU=>?_;by_cases sP:m=0
  ·subst sP;refine jB (Ai @h5 (Ai @h0 (Ai @h1 (Ai @Int.natCast_zero @Int.lt_irrefl)))) ?_;refine jF ?_;refine aC ?_;simp only[aA,aq,if_true];refine hK _ _ ?_;clear hK aU K K2;refine jB @h5 ?_;refine jI ?_;refine jW ⟨?_,rfl⟩;rw[←hinv];simp[Nat.mod_eq_of_lt ho]
  ·have wB:(0:Int)<m:=(by omega);refine jB (Ai @h5 (Ai @h0 (Ai @h1 @wB))) ?_;refine jE ?_;refine ab ?_;refine aU _ _ ?_;clear aU K2;refine wK fun K3 bq=>?_;refine ag ?_;refine wK fun K4 dM=>?_;have hand:mr .u64 (m:Int) 1=((m%2:Nat):Int):=by
    have:=rM (k:=.u64) rfl m 1 hm (by decide);rw[Nat.and_one_is_mod] at this;exact this
   have xdX:eU .u64 (m:Int) 1=((m/2:Nat):Int):=by
    have:=ir (k:=.u64) m 1;simpa[IntKind.bits] using this
   have Sm:∀(E2:Env)(o2:Nat),E2 5=.v (.int .u64 o2)→E2 0=.v (.int .u64 b)→E2 1=.v (.int .u64 m)→o2<PP→o2*(b*b%PP)^(m/2)%PP=a^n%PP→K4 E2 s1:=by
    intro E2 o2 e5 e0 e1 qQ zn;refine dM _ _ ?_;clear dM K4;refine jU @e0 fun K hK=>?_;refine ad (BV b b hb hb s1) ?_;rintro r s' ⟨rfl,rfl⟩;refine jR hK ?_;clear hK K;refine bq _ _ ?_;clear bq K3;refine jD (Ai @e1 @xdX) ?_;have Kj:b*b%PP<PP:=de _;refine⟨⟨o2,b*b%PP,m/2,e5,rfl,rfl,qQ,by omega,by omega,zn,rfl⟩,?_⟩;simp only[h1,aB,↓reduceIte];omega
   by_cases yo:m%2=1
   ·refine jB (Ai @h5 (Ai @h0 (Ai @h1 (Ai @hand (Ai @yo @Int.natCast_one))))) ?_;refine jE ?_;refine jU (Ai @h5 @h0) fun K hK=>?_;refine ad (BV o b (by omega) hb s1) ?_;rintro r s' ⟨rfl,rfl⟩;refine jR hK ?_;clear hK K;refine Sm _ (o*b%PP) rfl h0 h1 (de _) ?_;rw[←hinv];have e:b^m=b*(b*b)^(m/2):=by
     have :m=2*(m/2)+1:=(by omega);conv=>lhs;rw[this,Nat.pow_succ,Nat.pow_mul,Nat.pow_two,Nat.mul_comm]
    rw[e,←Nat.mul_assoc,Nat.mul_mod,Nat.mod_mod,←Nat.pow_mod,←Nat.mul_mod]
   ·have zo:m%2=0:=(by omega);refine wS fun K hK=>?_;simp only[↓DN,Qa,Qb,Qc,Qd,Qe,Qf,Qg,Qh,reduceCtorEq,↓reduceIte,Na,Nb,Nc,Nk,Nf,Ng,Nh,Za,Zb,Zc,TT,h5,h0,h1,hand,zo,Int.natCast_zero,Int.reduceBEq,Bool.false_eq_true];refine hK _ _ ?_;clear hK K;refine jF ?_;refine ab ?_;refine Sm _ o h5 h0 h1 ho ?_;rw[←hinv];have e:b^m=(b*b)^(m/2):=by
     have :m=2*(m/2):=(by omega);conv=>lhs;rw[this,Nat.pow_mul,Nat.pow_two]
    rw[e,Nat.mul_mod,←Nat.pow_mod,←Nat.mul_mod]
theorem uy:((0:Int)==1)=false:=rfl
theorem FJ(m:Nat)(hm:m<2^64):kX .u64 (m:Int) 2=((m/2:Nat):Int):=KH rfl m 2 hm
theorem FK(n:Nat):iW (n:Int) 2305843009213693951=((n%PP:Nat):Int):=lP n 2305843009213693951
theorem Ds(n:Nat):iW (n:Int) 2=((n%2:Nat):Int):=lP n 2
theorem uz(a b:Nat)(ha:a<2^64)(hb:b<2^64)(s:AS):aj prog Γ 126 [.v (.int .u64 a),.v (.int .u64 b)] s (fun r s'=>r=.v (.int .u64 (a*b%PP:Nat))∧s'=s):=by
 have hPP:PP=2305843009213693951:=rfl;refine aa func126 rfl ntmps126 results126 (by simp) ?_;refine jA ?_;refine jB @FK ?_;refine jB @FK ?_;refine jA ?_;refine wK fun K hK=>?_;refine ag ?_;refine aD (fun E s1=>∃o b' m:Nat,E 5=.v (.int .u64 o)∧E 0=.v (.int .u64 b')∧E 1=.v (.int .u64 m)∧o<PP∧b'<PP∧m<2^64∧(o+b'*m)%PP=a*b%PP∧s1=s)
  (fun E _=>match E 1 with |.v (.int _ i)=>i.toNat|_=>0) ?_ ?_
 ·exact⟨0,a%PP,b%PP,by simp[aB],by simp[aB],by simp[aB],by decide,de _,by have:=de b;omega,by rw[Nat.zero_add,←Nat.mul_mod],rfl⟩
 ·rintro E1 s1 ⟨o,b',m,h5,h0,h1,ho,KU,hm,hinv,rfl⟩ -
  refine wK fun K2 aU=>?_;by_cases sP:m=0
  ·subst sP;refine jB (Ai @h5 (Ai @h0 (Ai @h1 (Ai @Int.natCast_zero @Int.lt_irrefl)))) ?_;refine jF ?_;refine aC ?_;simp only[aA,aq,if_true];refine hK _ _ ?_;clear hK aU K K2;refine jB @h5 ?_;refine jI ?_;refine jW ⟨?_,rfl⟩;rw[←hinv];simp[Nat.mod_eq_of_lt ho]
  ·have wB:(0:Int)<m:=(by omega);refine jB (Ai @h5 (Ai @h0 (Ai @h1 @wB))) ?_;refine jE ?_;refine ab ?_;refine aU _ _ ?_;clear aU K2;refine ag ?_;refine wK fun K4 dM=>?_;have Sm:∀(E2:Env)(o2:Nat),E2 5=.v (.int .u64 o2)→E2 0=.v (.int .u64 b')→E2 1=.v (.int .u64 m)→o2<PP→(o2+(b'+b')%PP*(m/2))%PP=a*b%PP→K4 E2 s1:=by
    intro E2 o2 e5 e0 e1 qQ zn;refine dM _ _ ?_;clear dM K4;refine jB (Ai @e0 (Ai (oB b' b' (by omega)) @FK)) ?_;refine jD (Ai @e1 (FJ m hm)) ?_;have Kj:(b'+b')%PP<PP:=de _;refine⟨⟨o2,(b'+b')%PP,m/2,e5,rfl,rfl,qQ,by omega,by omega,zn,rfl⟩,?_⟩;simp only[h1,aB,↓reduceIte];omega
   by_cases yo:m%2=1
   ·refine jB (Ai @h5 (Ai @h0 (Ai @h1 (Ai @Ds (Ai @yo @Int.natCast_one))))) ?_;refine jE ?_;refine jD (Ai @h5 (Ai @h0 (Ai (oB o b' (by omega)) @FK))) ?_;refine Sm _ ((o+b')%PP) rfl h0 h1 (de _) ?_;rw[←hinv];have e:b'*m=b'+(b'+b')*(m/2):=by
     have :m=2*(m/2)+1:=(by omega);conv=>lhs;rw[this]
     rw[Nat.mul_add,Nat.mul_one,←Nat.mul_assoc,Nat.mul_two,Nat.add_comm]
    rw[e,←Nat.add_assoc,Nat.add_mod,Nat.mod_mod,Nat.mod_mul_mod,←Nat.add_mod]
   ·have zo:m%2=0:=(by omega);refine jB (Ai @h5 (Ai @h0 (Ai @h1 (Ai @Ds (Ai @zo (Ai @Int.natCast_zero @uy)))))) ?_;refine wC fun X Y hX hY=>?_;refine jP (Ai @DB @uy) ?_;refine hY ?_;clear hX hY X Y;refine ab ?_;refine Sm _ o h5 h0 h1 ho ?_;rw[←hinv];have e:b'*m=(b'+b')*(m/2):=by
     have :m=2*(m/2):=(by omega);conv=>lhs;rw[this]
     rw[←Nat.mul_assoc,Nat.mul_two]
    rw[e,Nat.add_mod,Nat.mod_mul_mod,←Nat.add_mod]
theorem Dt(a n:Nat)(ha:a<2^64)(hn:n<2^64)(s:AS):aj prog Γ 68 [.v (.int .u64 a),.v (.int .u64 n)] s (fun r s'=>r=.v (.int .u64 (a^n%PP:Nat))∧s'=s):=by
 have hPP:PP=2305843009213693951:=rfl;refine aa func68 rfl ntmps68 results68 (by simp) ?_;refine jA ?_;refine jA ?_;refine jB @FK ?_;refine wK fun K hK=>?_;refine ag ?_;refine aD (fun E s1=>∃o b m:Nat,E 5=.v (.int .u64 o)∧E 0=.v (.int .u64 b)∧E 1=.v (.int .u64 m)∧o<PP∧b<2^64∧m<2^64∧o*b^m%PP=a^n%PP∧s1=s)
  (fun E _=>match E 1 with |.v (.int _ i)=>i.toNat|_=>0) ?_ ?_
 ·exact⟨1,a%PP,n,by simp[aB],by simp[aB],by simp[aB,bx],by decide,by have:=de a;omega,hn,by rw[Nat.one_mul,←Nat.pow_mod],rfl⟩
 ·rintro E1 s1 ⟨o,b,m,h5,h0,h1,ho,hb,hm,hinv,rfl⟩ -
  refine wK fun K2 aU=>?_;by_cases sP:m=0
  ·subst sP;refine jB (Ai @h5 (Ai @h0 (Ai @h1 (Ai @Int.natCast_zero @Int.lt_irrefl)))) ?_;refine jF ?_;refine aC ?_;simp only[aA,aq,if_true];refine hK _ _ ?_;clear hK aU K K2;refine jB @h5 ?_;refine jI ?_;refine jW ⟨?_,rfl⟩;rw[←hinv];simp[Nat.mod_eq_of_lt ho]
  ·have wB:(0:Int)<m:=(by omega);refine jB (Ai @h5 (Ai @h0 (Ai @h1 @wB))) ?_;refine jE ?_;refine ab ?_;refine aU _ _ ?_;clear aU K2;refine ag ?_;refine wK fun K4 dM=>?_;have Sm:∀(E2:Env)(o2:Nat),E2 5=.v (.int .u64 o2)→E2 0=.v (.int .u64 b)→E2 1=.v (.int .u64 m)→o2<PP→o2*(b*b%PP)^(m/2)%PP=a^n%PP→K4 E2 s1:=by
    intro E2 o2 e5 e0 e1 qQ zn;refine dM _ _ ?_;clear dM K4;refine jS @e0 fun K hK=>?_;refine ad (uz b b hb hb s1) ?_;rintro r s' ⟨rfl,rfl⟩;refine jR hK ?_;clear hK K;refine jD (Ai @e1 (FJ m hm)) ?_;have Kj:b*b%PP<PP:=de _;refine⟨⟨o2,b*b%PP,m/2,e5,rfl,rfl,qQ,by omega,by omega,zn,rfl⟩,?_⟩;simp only[h1,aB,↓reduceIte];omega
   by_cases yo:m%2=1
   ·refine jB (Ai @h5 (Ai @h0 (Ai @h1 (Ai @Ds (Ai @yo @Int.natCast_one))))) ?_;refine jE ?_;refine jU (Ai @h5 @h0) fun K hK=>?_;refine ad (uz o b (by omega) hb s1) ?_;rintro r s' ⟨rfl,rfl⟩;refine jR hK ?_;clear hK K;refine Sm _ (o*b%PP) rfl h0 h1 (de _) ?_;rw[←hinv];have e:b^m=b*(b*b)^(m/2):=by
     have :m=2*(m/2)+1:=(by omega);conv=>lhs;rw[this,Nat.pow_succ,Nat.pow_mul,Nat.pow_two,Nat.mul_comm]
    rw[e,←Nat.mul_assoc,Nat.mul_mod,Nat.mod_mod,←Nat.pow_mod,←Nat.mul_mod]
   ·have zo:m%2=0:=(by omega);refine jB (Ai @h5 (Ai @h0 (Ai @h1 (Ai @Ds (Ai @zo (Ai @Int.natCast_zero @uy)))))) ?_;refine wC fun X Y hX hY=>?_;refine jP (Ai @DB @uy) ?_;refine hY ?_;clear hX hY X Y;refine ab ?_;refine Sm _ o h5 h0 h1 ho ?_;rw[←hinv];have e:b^m=(b*b)^(m/2):=by
     have :m=2*(m/2):=(by omega);conv=>lhs;rw[this,Nat.pow_mul,Nat.pow_two]
    rw[e,Nat.mul_mod,←Nat.pow_mod,←Nat.mul_mod]
def r7:List UInt8:=[107,101,121]
def cw(x:List UInt8):Nat:=1+gX (Kdf.label x r7 [] 8)%2305843009213693949
theorem FL:Kdf.fits r7 [] 8=true:=by decide
theorem rA(x:List UInt8):(Kdf.label x r7 [] 8).length=8:=by
 rw[Kdf.label,FL,if_pos rfl];exact Kdf.gU _ _ _
theorem qz(x:List UInt8):cw x<2305843009213693950:=by unfold cw;omega
theorem mO(n:Nat):dQ .u64 1 (iW (n:Int) 2305843009213693949)=((1+n%2305843009213693949:Nat):Int):=by
 have h:iW (n:Int) 2305843009213693949=((n%2305843009213693949:Nat):Int):=lP n 2305843009213693949;rw[h];exact oB 1 _ (by omega)
theorem xdY(l:List UInt8)(h:l.length=8):(jn 8 (l,0)).1=gX l:=by
 have e:List.take 8 l=l:=List.take_of_length_le (by omega);simp[jn,ee,h,e]
theorem kP(n:Nat)(hn:n<2^64)(s:AS):aj prog Γ 187 [.v (.int .u64 n)] s (fun r s'=>r=al (be 8 n) .any∧s'=s):=by
 refine aa func187 rfl ntmps187 results187 (by simp) ?_;refine jA ?_;refine jQ fun K hK=>?_;refine ad (qC s) ?_;rintro r s1 ⟨p,rfl,hp⟩;refine jR hK ?_;clear hK K;refine jQ fun K hK=>?_;refine ad (lr s s1 p ([],false) n hn (by simp) hp) ?_;rintro r s2 ⟨rfl,F0⟩;refine jR hK ?_;clear hK K;have Ms:ei 8 n ([],false)=(be 8 n,false):=(by simp[ei]);rw[Ms] at F0;refine jK (iS s s2 p _ (by simp) F0) ?_;rintro s3 rfl;refine jA ?_;refine jI ?_;exact⟨_,s,AV.aE.refl _,F0.le,rfl,rfl⟩
theorem og(dU:Γ 0=eA Sha.H0)(hG:Γ 1=Sha.K.map wV)(x:List UInt8)(hx:x.length≤2^36)(s:AS):aj prog Γ 41 [al x .any] s (fun r s'=>r=.v (.int .u64 (cw x))∧s'=s):=by
 refine aa func41 rfl ntmps41 results41 (by simp) ?_;have hlen:=rA x;have uu:=kB (Γ:=Γ) dU hG x r7 [] 8 hx (by decide) (by decide) (by decide) s;have nr:cw x=1+gX (Kdf.label x r7 [] 8)%2305843009213693949:=rfl;generalize cw x=k at *
 generalize Kdf.label x r7 [] 8=l at *
 refine jA ?_;refine jK (aj.gF (gE.aE.cons (AV.aE.refl _) (gE.aE.cons (AV.aE.refl _) (gE.aE.cons (AV.aM (sz:=1)) (gE.aE.refl _)))) uu) ?_;rintro s1 rfl;refine jQ fun K hK=>?_;refine ad (sg l s1 (by omega)) ?_;rintro r s2 ⟨p,rfl,hp⟩;refine jM ?_;refine ad (C6 s1 s2 p _ hp) ?_;rintro r s3 ⟨rfl,hp3⟩;rw[xdY l hlen];refine jV @mO hK ?_;clear hK K;refine jI ?_;rw[nr,mO];exact⟨_,s1,AV.aE.refl _,hp3.le,rfl,rfl⟩
theorem p7(x:List UInt8)(hx:x.length≤2^36)(s:AS):aj prog Γ 18 [.v (.string ⟨x.toArray⟩)] s (fun r s'=>r=.v (.int .u64 (cw x))∧s'=s):=by
 refine aa func18 rfl ntmps18 results18 (by simp) ?_;have hlen:=rA x;have uu:=qg (Γ:=Γ) x r7 [] 8 hx FL s;have nr:cw x=1+gX (Kdf.label x r7 [] 8)%2305843009213693949:=rfl;generalize cw x=k at *
 generalize Kdf.label x r7 [] 8=l at *
 refine jA ?_;refine jQ fun K hK=>?_;refine ad uu ?_;rintro r s1 ⟨rfl,rfl⟩;refine jM ?_;refine ad (Fi l (by omega) s1) ?_;rintro r s2 ⟨rfl,rfl⟩;refine jV @mO hK ?_;clear hK K;refine jI ?_;rw[nr,mO];exact jW ⟨rfl,rfl⟩
theorem eX(k:Nat)(hk:k<2^64)(s:AS):aj prog Γ 43 [.v (.int .u64 k)] s (fun r s'=>r=.v (.int .u64 (3^k%PP:Nat))∧s'=s):=by
 refine aa func43 rfl ntmps43 results43 (by simp) ?_;have h:=BW (Γ:=Γ) 3 k (by decide) hk s;generalize 3^k%PP=A at *
 refine jA ?_;refine jK h ?_;rintro s1 rfl;exact jJ
theorem mH(k:Nat)(hk:k<2^64)(s:AS):aj prog Γ 19 [.v (.int .u64 k)] s (fun r s'=>r=.v (.int .u64 (3^k%PP:Nat))∧s'=s):=by
 refine aa func19 rfl ntmps19 results19 (by simp) ?_;have h:=Dt (Γ:=Γ) 3 k (by decide) hk s;generalize 3^k%PP=A at *
 refine jA ?_;refine jK h ?_;rintro s1 rfl;exact jJ
theorem oW(k p:Nat)(hk:k<2^64)(hp:p<2^64)(s:AS):aj prog Γ 154 [.v (.int .u64 k),.v (.int .u64 p)] s (fun r s'=>r=al (be 8 (p^k%PP)) .any∧s'=s):=by
 refine aa func154 rfl ntmps154 results154 (by simp) ?_;have h:=BW (Γ:=Γ) p k hp hk s;have hl:p^k%PP<2^64:=(by have:=de (p^k);have:=IX;omega);generalize p^k%PP=A at *
 refine jA ?_;refine jQ fun K hK=>?_;refine ad h ?_;rintro r s1 ⟨rfl,rfl⟩;refine jM ?_;refine ad (kP A hl s1) ?_;rintro r s2 ⟨rfl,rfl⟩;refine jR hK ?_;clear hK K;exact jJ
end Go.Proofs.YtbiefppedlodiaaGreatDoor
namespace Go.AM
namespace Hpke
def r7:List UInt8:=[107,101,121]
def zh:List UInt8:=[110,111,110,99,101]
def pm:Nat→Nat→Nat→Nat
  |0,_,_=>1
  |f+1,a,n=>if n%2=1 then a*pm f (a*a%PP) (n/2)%PP else pm f (a*a%PP) (n/2)
theorem EU:∀(f a n:Nat),n<2^f→pm f a n%PP=a^n%PP
  |0,a,n,h=>by
    obtain rfl:n=0:=(by simpa using h);rfl
  |f+1,a,n,h=>by
    have ih:=EU f (a*a%PP) (n/2) (by rw[Nat.pow_succ] at h;omega);have e:a^n=a^(n%2)*(a*a)^(n/2):=by
      conv=>lhs;rw[←Nat.div_add_mod n 2]
      rw[Nat.pow_add,Nat.pow_mul,Nat.mul_comm,Nat.pow_two]
    rw[←Nat.pow_mod] at ih;rw[pm];split
    · rename_i h1;rw[e,h1,Nat.pow_one,Nat.mod_mod,Nat.mul_mod,ih,←Nat.mul_mod]
    · rename_i h1;have h0:n%2=0:=(by omega);rw[e,h0,Nat.pow_zero,Nat.one_mul,ih]
def sec(shared kc to:Nat):List UInt8:=Mac.tag [] (be 8 shared++(be 8 kc++be 8 to))
def hk(s info:List UInt8):List UInt8:=Kdf.label s r7 info 48
def hn(s info:List UInt8):List UInt8:=Kdf.label s zh info 16
def ld:List UInt8:=[58,81,223,243,45,240,153,21]
def ki:List UInt8:=[6,141,179,206,59,220,75,205,198,77,58,67,99,194,233,122,153,41,163,200,98,168,177,210,181,231,29,134,148,66,107,113,124,242,131,217,24,36,134,132,77,156,59,74,50,173,130,234]
def m0:List UInt8:=[144,78,103,61]
def t0:List UInt8:=[114,25,121,18,165,57,11,147,19,26,64,233,1,176,44,69]
end Hpke
end Go.AM
namespace Go.Proofs.YtbiefppedlodiaaGreatDoor
open Go Go.AM Go.Proofs Tryz
variable{Γ:Nat→List AV}
theorem BX(info:List UInt8)(h:info.length≤60000):Kdf.fits Hpke.r7 info 48=true:=by
 simp[Kdf.fits,Hpke.r7];omega
theorem wo(info:List UInt8)(h:info.length≤60000):Kdf.fits Hpke.zh info 16=true:=by
 simp[Kdf.fits,Hpke.zh];omega
theorem NN(s info:List UInt8)(h:info.length≤60000):(Hpke.hk s info).length=48:=by
 rw[Hpke.hk,Kdf.label,BX info h,if_pos rfl];exact Kdf.gU _ _ _
theorem NP(s info:List UInt8)(h:info.length≤60000):(Hpke.hn s info).length=16:=by
 rw[Hpke.hn,Kdf.label,wo info h,if_pos rfl];exact Kdf.gU _ _ _
theorem QP(a b c:Nat):(Hpke.sec a b c).length=32:=Mac.mK _ _
theorem NQ(a b c:Nat):Mac.tag [] ([be 8 a,be 8 b,be 8 c].flatten)=Hpke.sec a b c:=by
 rw[Hpke.sec];simp
theorem wq(dU:Γ 0=eA Sha.H0)(hG:Γ 1=Sha.K.map wV)(a b c:Nat)(info:List UInt8)(hb:b<2^64)(hc:c<2^64)(hi:info.length≤60000)(s:AS):
  aj prog Γ 153 [al (be 8 a) .any,.v (.int .u64 b),.v (.int .u64 c),al info .any] s
   (fun r s'=>r=.eu [al (Hpke.hk (Hpke.sec a b c) info) .any,al (Hpke.hn (Hpke.sec a b c) info) .any,.v (.bool true)]∧s'=s):=by
 refine aa func153 rfl ntmps153 results153 (by simp) ?_;have xaE:∀x:AV,List.replicate 3 x=[x,x,x]:=fun _=>rfl;have DE:=fun s=>ly (Γ:=Γ) [be 8 a,be 8 b,be 8 c] .new (by simp) (by simp) s;have hex:=fun s=>AF (Γ:=Γ) dU hG [] ([be 8 a,be 8 b,be 8 c].flatten) (by simp) (by simp) s;rw[NQ] at hex;have oZ:([be 8 a,be 8 b,be 8 c].flatten).length=24:=(by simp);have tG:=QP a b c;have h1:=fun s=>kB (Γ:=Γ) dU hG (Hpke.sec a b c) Hpke.r7 info 48 (by omega) (by decide) (by omega) (by decide) s;have h2:=fun s=>kB (Γ:=Γ) dU hG (Hpke.sec a b c) Hpke.zh info 16 (by omega) (by decide) (by omega) (by decide) s;rw[BX info hi] at h1;rw[wo info hi] at h2;change ∀s,aj _ _ _ _ s (fun r s'=>r=.eu [al (Hpke.hk (Hpke.sec a b c) info) .any,_]∧s'=s) at h1;change ∀s,aj _ _ _ _ s (fun r s'=>r=.eu [al (Hpke.hn (Hpke.sec a b c) info) .any,_]∧s'=s) at h2;generalize [be 8 a,be 8 b,be 8 c].flatten=F at *
 generalize Hpke.hk (Hpke.sec a b c) info=k at *
 generalize Hpke.hn (Hpke.sec a b c) info=n at *
 generalize Hpke.sec a b c=S at *
 refine jA ?_;refine jQ fun K hK=>?_;refine ad (kP b hb _) ?_;rintro r s1 ⟨rfl,rfl⟩;refine jM ?_;refine ad (kP c hc _) ?_;rintro r s2 ⟨rfl,rfl⟩;refine jN @xaE ?_;refine ad (DE _) ?_;intro r s3 bB;obtain⟨t,e,rfl⟩:=cv bB (by rw[←List.length_pos_iff,oZ];decide);have gH:=bB.1;clear bB;refine jM ?_;refine ad (aj.gF (gE.aE.cons (AV.aM (sz:=1)) (gE.aE.cons (AV.bN) gE.aE.nil)) (hex _)) ?_;intro r s4 bB;obtain⟨t4,e4,rfl⟩:=cv bB (by rw[←List.length_pos_iff,tG];decide);have fM:=gH.trans bB.1;clear bB;refine jR hK ?_;clear hK K;refine jK (aj.gF (gE.aE.cons (AV.bN) (gE.aE.refl _)) (h1 _)) ?_;rintro s5 rfl;refine jK (aj.gF (gE.aE.cons (AV.bN) (gE.aE.refl _)) (h2 _)) ?_;rintro s6 rfl;refine jA ?_;refine jI ?_;exact⟨_,_,AV.aE.refl _,fM,rfl,rfl⟩
def vW(n:Nat):Prop:=2≤n∧n≤2305843009213693949
instance(n:Nat):Decidable (vW n):=by unfold vW;infer_instance
theorem FM{n:Nat}(h:vW n):(decide (2≤(n:Int))&&decide ((n:Int)≤2305843009213693949))=true:=by
 obtain⟨h1,h2⟩:=h;simp only[Bool.and_eq_true,decide_eq_true_eq];omega
theorem CR(a:Nat):a%PP<2^64:=by have:=de a;have:=IX;omega
def iN(draw:List UInt8):Nat:=3^cw draw%PP
def kL(jc:Nat)(draw:List UInt8):List UInt8:=Hpke.sec (jc^cw draw%PP) (iN draw) jc
def iP(jc:Nat)(info beside text draw:List UInt8):List UInt8:=Aes.dW (Hpke.hk (kL jc draw) info) (Hpke.hn (kL jc draw) info) beside text
def qh(key kc:Nat):List UInt8:=Hpke.sec (kc^key%PP) kc (3^key%PP)
def n9(key kc:Nat)(text info beside:List UInt8):List UInt8:=iU (Hpke.hk (qh key kc) info) (Hpke.hn (qh key kc) info) beside text
def oc(key kc:Nat)(text info beside:List UInt8):Nat:=iV (Hpke.hk (qh key kc) info) (Hpke.hn (qh key kc) info) beside text
theorem LO(dU:Γ 0=eA Sha.H0)(hG:Γ 1=Sha.K.map wV)(jc:Nat)(hp:vW jc)(info beside text draw:List UInt8)(hi:info.length≤60000)(hb:beside.length≤2^30)(ht:text.length≤2^30)(hd:draw.length≤2^36)(s:AS):
  aj prog Γ 107 [.v (.int .u64 jc),al info .any,al beside .any,al text .any,al draw .any] s
   (fun r s'=>r=.eu [.agg [.v (.int .u64 (iN draw)),al (iP jc info beside text draw) .any],.v (.int .i64 ((0:Nat):Int))]∧s'=s):=by
 refine aa func107 rfl ntmps107 results107 (by simp) ?_;have NR:jc<2^64:=(by have:=hp.2;omega);have hke:=qz draw;have c1:=fun s=>og (Γ:=Γ) dU hG draw hd s;have c2:=fun s=>eX (Γ:=Γ) (cw draw) (by omega) s;have c3:=fun s=>oW (Γ:=Γ) (cw draw) jc (by omega) NR s;have c4:=fun s=>wq (Γ:=Γ) dU hG (jc^cw draw%PP) (iN draw) jc info (CR _) NR hi s;have uB:=NN (kL jc draw) info hi;have Bn:=NP (kL jc draw) info hi;have c5:=fun s=>HL (Γ:=Γ) dU hG (Hpke.hk (kL jc draw) info) (Hpke.hn (kL jc draw) info) beside text hb ht s;simp only[show zw (Hpke.hk (kL jc draw) info) (Hpke.hn (kL jc draw) info) beside text=iP jc info beside text draw from by unfold zw;rw[if_pos ⟨uB,Bn⟩];rfl,show zx (Hpke.hk (kL jc draw) info) (Hpke.hn (kL jc draw) info)=0 from by unfold zx;rw[if_pos ⟨uB,Bn⟩]] at c5;simp only[show Hpke.sec (jc^cw draw%PP) (iN draw) jc=kL jc draw from rfl] at c4;simp only[show 3^cw draw%PP=iN draw from rfl] at c2;generalize iP jc info beside text draw=z at *
 generalize Hpke.hk (kL jc draw) info=k at *
 generalize Hpke.hn (kL jc draw) info=n at *
 generalize jc^cw draw%PP=sh at *
 generalize iN draw=f at *
 generalize cw draw=e at *
 refine jQ fun K hK=>?_;intro o ho;refine hK _ _ ?_;clear hK K;refine wK fun K hK=>?_;refine jQ fun K hK=>?_;refine ad (cn jc _) ?_;rintro r s1 ⟨rfl,rfl⟩;refine jV (FM hp) hK ?_;clear hK K;refine jF ?_;refine ab ?_;refine hK _ _ ?_;clear hK K;refine jK (c1 _) ?_;rintro s2 rfl;refine jK (c2 _) ?_;rintro s3 rfl;refine jQ fun K hK=>?_;refine ad (c3 _) ?_;rintro r s4 ⟨rfl,rfl⟩;refine jM ?_;refine ad (c4 _) ?_;rintro r s5 ⟨rfl,rfl⟩;refine jR hK ?_;clear hK K;refine wK fun K hK=>?_;refine jA ?_;refine jF ?_;refine ab ?_;refine hK _ _ ?_;clear hK K;refine jK (c5 _) ?_;rintro s6 rfl;refine wK fun K hK=>?_;refine jB (show(((0:Nat):Int) != 0)=false from rfl) ?_;refine jF ?_;refine ab ?_;refine hK _ _ ?_;clear hK K;refine jA ?_;refine a7 ?_;refine lQ (o:=o) (off:=0) rfl (AS.af _ _ _) (by rw[T.c78];decide) (by simp only[↓DN,Qa,Qb,Qc,Qd,Qe,Qf,Qg,Qh,reduceCtorEq,↓reduceIte,Na,Nb,Nc,Nk,Nf,Ng,Nh,Za,Zb,Zc,TT];rfl) ?_;exact⟨_,s,AV.aE.refl _,AS.aF (AS.le.refl s) ho _,rfl,rfl⟩
def yt(key kc:Nat):Prop:=vW kc∧1≤key∧key≤2305843009213693949
instance(key kc:Nat):Decidable (yt key kc):=by unfold yt;infer_instance
theorem LC(dU:Γ 0=eA Sha.H0)(hG:Γ 1=Sha.K.map wV)(key kc:Nat)(hk:yt key kc)(text info beside:List UInt8)(hi:info.length≤60000)(hb:beside.length≤2^30)(ht:text.length≤2^30)(s:AS):
  aj prog Γ 132 [.v (.int .u64 key),.agg [.v (.int .u64 kc),al text .any],al info .any,al beside .any] s
   (fun r s'=>r=.eu [al (n9 key kc text info beside) .any,.v (.int .i64 ((oc key kc text info beside:Nat):Int))]∧s'=s):=by
 refine aa func132 rfl ntmps132 results132 (by simp) ?_;obtain⟨hp,h1,h2⟩:=hk;have NR:kc<2^64:=(by have:=hp.2;omega);have c2:=fun s=>eX (Γ:=Γ) key (by omega) s;have c3:=fun s=>oW (Γ:=Γ) key kc (by omega) NR s;have c4:=fun s=>wq (Γ:=Γ) dU hG (kc^key%PP) kc (3^key%PP) info NR (CR _) hi s;have uB:=NN (qh key kc) info hi;have Bn:=NP (qh key kc) info hi;have c5:=fun s=>w9 (Γ:=Γ) dU hG (Hpke.hk (qh key kc) info) (Hpke.hn (qh key kc) info) beside text hb ht s;simp only[show Uz (Hpke.hk (qh key kc) info) (Hpke.hn (qh key kc) info) beside text=n9 key kc text info beside from by unfold Uz;rw[if_pos ⟨uB,Bn⟩];rfl,show UA (Hpke.hk (qh key kc) info) (Hpke.hn (qh key kc) info) beside text=oc key kc text info beside from by unfold UA;rw[if_pos ⟨uB,Bn⟩];rfl] at c5;simp only[show Hpke.sec (kc^key%PP) kc (3^key%PP)=qh key kc from rfl] at c4;generalize n9 key kc text info beside=z at *
 generalize oc key kc text info beside=y at *
 generalize Hpke.hk (qh key kc) info=k at *
 generalize Hpke.hn (qh key kc) info=n at *
 generalize kc^key%PP=sh at *
 generalize 3^key%PP=to at *
 refine aX 5 (by simp[cC]) ?_;intro K hK;refine jM ?_;intro o ho;refine hK _ _ o _ rfl ho ?_;clear hK K ho;refine wK fun K hK=>?_;refine jQ fun K hK=>?_;refine ad (cn kc _) ?_;rintro r s1 ⟨rfl,rfl⟩;refine jV (Ai (FM hp) (Ai (decide_eq_false (show ¬(key:Int)<1 by omega)) (decide_eq_false (show ¬(2305843009213693949:Int)<(key:Int) by omega)))) hK ?_;clear hK K;refine jF ?_;refine ab ?_;refine hK _ _ ?_;clear hK K;refine bj T.mixed [3,7,9] (by kernel_rfl) ?_;intro K hK;refine jM ?_;refine ad (c3 _) ?_;rintro r s2 ⟨rfl,rfl⟩;refine jM ?_;refine ad (c2 _) ?_;rintro r s3 ⟨rfl,rfl⟩;refine jM ?_;refine ad (c4 _) ?_;rintro r s4 ⟨rfl,rfl⟩;refine jR hK ?_;clear hK K;refine wK fun K hK=>?_;refine jA ?_;refine jF ?_;refine ab ?_;refine hK _ _ ?_;clear hK K;refine jK (c5 _) ?_;rintro s5 rfl;exact jJ
theorem L4(d:List UInt8):iN d=3^cw d%PP:=rfl
theorem NS(a b:Nat):(3^a%PP)^b%PP=(3^b%PP)^a%PP:=by
  rw[←Nat.pow_mod,←Nat.pow_mod,←Nat.pow_mul,←Nat.pow_mul,Nat.mul_comm]
theorem FN(k:Nat)(draw:List UInt8):qh k (iN draw)=kL (3^k%PP) draw:=by
  unfold qh kL iN;rw[NS]
theorem Tq(k:Nat)(info beside text draw:List UInt8):n9 k (iN draw) (iP (3^k%PP) info beside text draw) info beside=text:=by
  unfold n9 iP;rw[FN,zy]
theorem Tr(k:Nat)(info beside text draw:List UInt8):oc k (iN draw) (iP (3^k%PP) info beside text draw) info beside=0:=by
  unfold oc iP;rw[FN,zz]
def eM:List UInt8:=[112,97,116,104]
def zA:List UInt8:=[110,111,100,101]
def FO:List UInt8:=[115,101,97,108]
def b7(d:List UInt8):Nat→List UInt8
 |0=>d
 |k+1=>Kdf.derive (b7 d k) eM
def pX(x:List UInt8):Nat:=cw (Kdf.derive x zA)
theorem iQ(x l:List UInt8):(Kdf.derive x l).length=32:=by
 rw[Kdf.derive,Kdf.label,wh,if_pos rfl];exact Kdf.gU _ _ _
theorem zB(d:List UInt8)(h:d.length≤2^36):∀k,(b7 d k).length≤2^36
 |0=>h
 |k+1=>by rw[b7,iQ];decide
theorem lB(d:List UInt8)(k:Nat):(b7 d (k+1)).length=32:=iQ _ _
theorem Ip(x:List UInt8):pX x<2^64:=by have:=qz (Kdf.derive x zA);unfold pX;omega
theorem mY(dU:Γ 0=eA Sha.H0)(gy:Γ 1=Sha.K.map wV)(x:List UInt8)(hx:x.length≤2^36)(s:AS):aj prog Γ 49 [al x .any] s (fun r s'=>r=.v (.int .u64 (pX x:Nat))∧s'=s):=by
 refine aa func49 rfl ntmps49 results49 (by simp) ?_;have h1:=fun s=>lk (Γ:=Γ) dU gy x zA hx (by decide) s;have h2:=fun s=>og (Γ:=Γ) dU gy (Kdf.derive x zA) (by rw[iQ];decide) s;obtain⟨k,hk⟩:∃k,k=pX x:=⟨_,rfl⟩;rw[←hk];rw[show cw (Kdf.derive x zA)=k from hk.symm] at h2;generalize Kdf.derive x zA=y at *
 unfold zA at h1;refine jA ?_;refine jQ fun K hK=>?_;refine ad (h1 _) ?_;rintro r s1 ⟨rfl,rfl⟩;refine jM ?_;refine ad (h2 _) ?_;rintro r s2 ⟨rfl,rfl⟩;refine jR hK ?_;clear hK K;exact jJ
theorem l7(dU:Γ 0=eA Sha.H0)(gy:Γ 1=Sha.K.map wV)(d:List UInt8)(hd:d.length≤2^36)(n:Nat)(hn:n≤2^40)(s:AS):aj prog Γ 25 [al d .any,.v (.int .i64 n)] s (fun r s'=>r=al (b7 d (n+1)) .any∧s'=s):=by
 refine aa func25 rfl ntmps25 results25 (by simp) ?_;unfold al;have e1:dQ .i64 (n:Int) 1=((n+1:Nat):Int):=bd n (by omega);refine jA ?_;refine wK fun K hK=>?_;refine jB @e1 ?_;refine ag ?_;refine aD (fun E s2=>∃(i:Nat)(x:List UInt8),x=b7 d i∧i≤n+1∧E 7=.v (.int .i64 i)∧E 6=.v (.int .i64 (n+1:Nat))∧E 0=.sl 1 x.length (x.map ae) .any∧s2=s)
  (fun E _=>match E 7 with |.v (.int _ i)=>n+1-i.toNat|_=>0) ?_ ?_
 ·exact⟨0,d,rfl,Nat.zero_le _,rfl,rfl,rfl,rfl⟩
 ·rintro E1 s2 ⟨i,x,hx,hi,g7,g6,g0,rfl⟩ -
  have hc:=zB d hd i;rw[←hx] at hc;by_cases aY:i<n+1
  ·have h1:=fun s=>lk (Γ:=Γ) dU gy x eM hc (by decide) s;have h2:Kdf.derive x eM=b7 d (i+1):=(by rw[hx];rfl);generalize Kdf.derive x eM=y at *
   unfold eM al at h1;refine jB (Ai @g7 (Ai @g6 (Ai @au (decide_eq_true aY)))) ?_;refine wK fun K2 aU=>?_;refine jE ?_;refine ab ?_;refine aU _ _ ?_;clear aU K2;refine wK fun K3 bq=>?_;refine ag ?_;refine jU @g0 fun K hK=>?_;refine ad (h1 _) ?_;rintro r s3 ⟨rfl,rfl⟩;refine jR hK ?_;clear hK K;refine bq _ _ ?_;clear bq K3;refine jD (Ai @g7 (bd i (by omega))) ?_;refine⟨⟨i+1,y,h2,aY,rfl,g6,rfl,rfl⟩,?_⟩;simp only[g7,aB,↓reduceIte];omega
  ·obtain rfl:i=n+1:=(by omega);rw[←hx] at hK;have h2:=fun s=>fZ (Γ:=Γ) x s (by omega);unfold al at h2;have bJ:¬(n+1)<n+1:=(by omega);refine jB (Ai @g7 (Ai @g6 (Ai @au (decide_eq_false bJ)))) ?_;refine wK fun K2 aU=>?_;refine jF ?_;refine aC ?_;simp only[aA,aq,if_true];refine hK _ _ ?_;clear hK aU K2 K;refine jS @g0 fun K hK=>?_;refine ad (h2 _) ?_;rintro r s3 ⟨rfl,rfl⟩;refine jR hK ?_;clear hK K;exact jJ
theorem tT(d:List UInt8)(hd:d.length≤2^36)(n:Nat)(hn:n≤2^40)(s:AS):aj prog Γ 28 [.v (.string ⟨d.toArray⟩),.v (.int .i64 n)] s (fun r s'=>r=.v (.string ⟨(b7 d (n+1)).toArray⟩)∧s'=s):=by
 refine aa func28 rfl ntmps28 results28 (by simp) ?_;refine jA ?_;refine wK fun K hK=>?_;refine jA ?_;refine ag ?_;refine aD (fun E s2=>∃(i:Nat)(x:List UInt8),x=b7 d i∧i≤n+1∧E 5=.v (.int .i64 i)∧E 1=.v (.int .i64 n)∧E 0=.v (.string ⟨x.toArray⟩)∧s2=s)
  (fun E _=>match E 5 with |.v (.int _ i)=>n+1-i.toNat|_=>0) ?_ ?_
 ·exact⟨0,d,rfl,Nat.zero_le _,rfl,rfl,rfl,rfl⟩
 ·rintro E1 s2 ⟨i,x,hx,hi,g5,g1,g0,rfl⟩ -
  have hc:=zB d hd i;rw[←hx] at hc;refine wK fun K2 aU=>?_;by_cases aY:i<n+1
  ·have h1:=fun s=>oO (Γ:=Γ) x eM hc (by decide) s;have h2:Kdf.derive x eM=b7 d (i+1):=(by rw[hx];rfl);generalize Kdf.derive x eM=y at *
   unfold eM at h1;have hle:((i:Nat):Int)≤(n:Int):=(by omega);refine jB (Ai @g5 (Ai @g1 (decide_eq_true hle))) ?_;refine jE ?_;refine ab ?_;refine aU _ _ ?_;clear aU K2;refine wK fun K3 bq=>?_;refine ag ?_;refine jU @g0 fun K hK=>?_;refine ad (h1 _) ?_;rintro r s3 ⟨rfl,rfl⟩;refine jR hK ?_;clear hK K;refine bq _ _ ?_;clear bq K3;refine jD (Ai @g5 (bd i (by omega))) ?_;refine⟨⟨i+1,y,h2,aY,rfl,g1,rfl,rfl⟩,?_⟩;simp only[g5,aB,↓reduceIte];omega
  ·obtain rfl:i=n+1:=(by omega);rw[←hx] at hK;have bJ:¬((n+1:Nat):Int)≤(n:Int):=(by omega);refine jB (Ai @g5 (Ai @g1 (decide_eq_false bJ))) ?_;refine jF ?_;refine aC ?_;simp only[aA,aq,if_true];refine hK _ _ ?_;clear hK aU K2 K;refine jB @g0 ?_;exact jJ
end Go.Proofs.YtbiefppedlodiaaGreatDoor
namespace Go.AM
structure bu where
  node:Int
  key:Nat
  deriving DecidableEq
def bu.cells(h:bu):List AV:=[.v (.int .i64 h.node),.v (.int .u64 h.key)]
def eg(l:List bu):AV:=.sl 2 l.length (aK bu.cells l) .any
theorem Pt{α:Type}{c:α→List AV}{k:Nat}(hk:∀a,(c a).length=k){l:List α}{i:Nat}(h:i<l.length)(rest:List AV):List.take k (List.drop (i*k) (aK c l++rest))=c l[i]:=by
  have hm:(i+1)*k≤l.length*k:=Nat.mul_le_mul_right _ h;have he:(i+1)*k=i*k+k:=Nat.succ_mul _ _;rw[List.drop_append_of_le_length (by rw[cj hk];omega),List.take_append_of_le_length (by rw[List.length_drop,cj hk];omega),mW hk h]
theorem ke{α:Type}(c:α→List AV)(a b:List α):aK c (a++b)=aK c a++aK c b:=by simp[aK]
end Go.AM
namespace Go.Proofs.YtbiefppedlodiaaGreatDoor
open Go Go.AM Go.Proofs Tryz
variable{Γ:Nat→List AV}
theorem rl(l:List bu)(hl:l.length≤2^61)(sp:Sp)(k:FuncId)(hk:ai prog k=true)(cg:List AV)(P:bu→Bool)
  (hP:∀x∈l,∀s,aj prog Γ k (.agg x.cells::cg) s (fun r s'=>r=.v (.bool (P x))∧s'=s)) (s:AS):
  aj prog Γ 130 [.sl 2 l.length (aK bu.cells l) sp,.qE k cg] s (fun r s'=>r=.v (.int .i64 (cd (fun i=>P (l.getD i ⟨0,0⟩)) l.length 0))∧s'=s):=by
 refine aa func130 rfl ntmps130 results130 (by simp) ?_;obtain⟨Q,hQ⟩:∃Q:Nat→Bool,Q=fun i=>P (l.getD i ⟨0,0⟩):=⟨_,rfl⟩;rw[←hQ];have wL:=fun i(h:i<l.length)=>mW (c:=bu.cells) (k:=2) (fun _=>rfl) h;generalize aK bu.cells l=Y at *
 refine jA ?_;refine wK fun K hK=>?_;refine jA ?_;refine ag ?_;refine aD (fun E s2=>∃i:Nat,i≤l.length∧cd Q (l.length-i) i=cd Q l.length 0∧E 8=.v (.int .i64 i)∧E 7=.v (.int .i64 l.length)∧E 0=.sl 2 l.length Y sp∧E 1=.qE k cg∧s2=s)
  (fun E _=>match E 8 with |.v (.int _ i)=>l.length-i.toNat|_=>0) ?_ ?_
 ·exact⟨0,Nat.zero_le _,rfl,rfl,rfl,rfl,rfl,rfl⟩
 ·rintro E1 s2 ⟨i,hi,hf,g8,g7,g0,g1,rfl⟩ -
  by_cases aY:i<l.length
  ·refine jB (Ai @g8 (Ai @g7 (Ai @au (decide_eq_true aY)))) ?_;refine wK fun K2 aU=>?_;refine jE ?_;refine ab ?_;refine aU _ _ ?_;clear aU K2;refine wK fun K3 bq=>?_;refine ag ?_;have zD:Q i=P l[i]:=(by rw[hQ];simp[List.getD,aY]);have hc:=hP l[i] (List.getElem_mem aY) s2;rw[←zD] at hc;obtain⟨k',Dy⟩:∃k',l.length-i=k'+1:=⟨l.length-i-1,by omega⟩;have Dw:l.length-(i+1)=k':=(by omega);rw[Dy] at hf;have cT:=wL i aY;have cA:(0:Int)≤(i:Int):=(by omega);generalize l[i]=q at *
   unfold bu.cells at cT hc;refine jB @g8 ?_;refine jS (Ai @g1 (Ai @g0 (Ai @au (Ai @aY (Ai @cA @cT))))) fun K hK=>?_;refine⟨hk,?_⟩;refine ad hc ?_;rintro r s3 ⟨rfl,rfl⟩;cases hq:Q i with
   |true=>
    refine jR hK ?_;clear hK K;refine jE ?_;refine jA ?_;refine jI ?_;rw[←hf,ku hq];exact jW ⟨rfl,rfl⟩
   |false=>
    refine jR hK ?_;clear hK K;refine jF ?_;refine ab ?_;simp only[aq,aA,if_true,if_false];refine bq _ _ ?_;clear bq K3;refine jD (Ai @g8 (bd i (by omega))) ?_;refine⟨⟨i+1,by omega,by rw[Dw,←hf,kt hq],rfl,g7,g0,g1,rfl⟩,?_⟩;simp only[g8,aB,↓reduceIte];omega
  ·refine jB (Ai @g8 (Ai @g7 (Ai @au (decide_eq_false aY)))) ?_;refine wK fun K2 aU=>?_;refine jF ?_;refine aC ?_;simp only[aA,aq,if_true];refine hK _ _ ?_;clear hK aU K2 K;rw[show l.length-i=0 by omega] at hf;refine jA ?_;refine jI ?_;rw[←hf];exact jW ⟨rfl,rfl⟩
theorem Ac(l:List bu)(hl:l.length≤2^61)(sp:Sp)(k:FuncId)(hk:ai prog k=true)(cg:List AV)(P:bu→Bool)
  (hP:∀x∈l,∀s,aj prog Γ k (.agg x.cells::cg) s (fun r s'=>r=.v (.bool (P x))∧s'=s)) (vz:∀x∈l,P x=false) (s:AS):
  aj prog Γ 81 [.sl 2 l.length (aK bu.cells l) sp,.qE k cg] s (fun r s'=>r=.sl 2 l.length (aK bu.cells l) sp∧s'=s):=by
 refine aa func81 rfl ntmps81 results81 (by simp) ?_;have qI:=rl (Γ:=Γ) l hl sp k hk cg P hP s;have hn:cd (fun i=>P (l.getD i ⟨0,0⟩)) l.length 0= -1:=by
  rcases ks (fun i=>P (l.getD i ⟨0,0⟩)) l.length 0 with⟨h,-⟩|⟨i,-,hi,hp,-,-⟩
  ·exact h
  ·have aY:i<l.length:=(by omega);simp only[List.getD,aY,List.getElem?_eq_getElem,Option.getD_some] at hp;rw[vz _ (List.getElem_mem aY)] at hp;cases hp
 rw[hn] at qI;generalize aK bu.cells l=Y at *
 refine jA ?_;refine jK qI ?_;rintro s1 rfl;refine wK fun K hK=>?_;refine jA ?_;refine jE ?_;refine jA ?_;exact jJ
theorem wJ(l:List bu)(h0:l.length≠0)(hl:l.length≤2^40)(s:AS):aj prog Γ 82 [eg l] s (fun r s'=>∃t,r=.sl 2 l.length (aK bu.cells l) (.own t 0)∧s.own t=none∧s'=s.bA t 0):=by
 refine aa func82 rfl ntmps82 results82 (by simp) ?_;have kG:(aK bu.cells l).all AV.one=true:=by
  rw[List.all_eq_true];intro c hc;simp only[aK,List.mem_flatten,List.mem_map] at hc;obtain⟨_,⟨n,-,rfl⟩,hc⟩:=hc;simp only[bu.cells,List.mem_cons,List.not_mem_nil,or_false] at hc;rcases hc with rfl|rfl<;>rfl
 unfold eg;generalize aK bu.cells l=X at *
 refine jA ?_;refine wK fun K hK=>?_;refine jB @h0 ?_;refine jF ?_;refine ab ?_;refine hK _ _ ?_;clear hK K;refine jS (Ai @h0 @kG) fun K hK=>?_;refine⟨by omega,by omega,fun t ht=>?_⟩;refine hK _ _ ?_;clear hK K;refine jI ?_;exact jW ⟨t,rfl,ht,rfl⟩
end Go.Proofs.YtbiefppedlodiaaGreatDoor
namespace Go.AM
open Go
theorem QQ:∀n<63,2*lo n+2^lv n=n+1∧2*hi n+1=n+2^lv n:=by decide+kernel
theorem QR:∀n<63,∀l<5,lv n=l+1→2^l≤n∧lv (n-2^l)=l∧lv (n+2^l)=l∧n+2^l<63:=by decide+kernel
def kT(x n:Nat):Prop:=n<x+2^lv n∧x<n+2^lv n
instance(x n:Nat):Decidable (kT x n):=by unfold kT;infer_instance
theorem FP{t:List ah}{skip:List Int}{n:Nat}{x:Int}(h:x∈kV skip (nd t n) n):x=(n:Int)∧(nd t n).kind≠0:=by
  unfold kV at h;split at h
  · rename_i hk;refine⟨by simpa using h,?_⟩;rcases hk with⟨hk,-⟩|hk<;>rw[hk]<;>decide
  · cases h
theorem IY{t:List ah}(hr:bf t){skip:List Int}{n:Nat}(hn:n<63)(ht:n<t.length){x:Int}(h:x∈iR skip (nd t n).iA):∃m:Nat,x=(m:Int)∧m<t.length∧(nd t m).kind≠0∧kT m n:=by
  unfold iR at h;rw[List.mem_map] at h;obtain⟨u,hu,rfl⟩:=h;rw[List.mem_filter] at hu;obtain⟨h1,h2,h3⟩:=(hr.2.1 n ht).1.2.2 u hu.1;obtain⟨h4,h5,h6⟩:=h3;unfold iD at h1 h2;rw[if_pos (by omega)] at h1 h2;simp only[Int.toNat_natCast] at h1 h2;have PC:=QQ n hn;have bJ:=Mg (t:=t) (i:=u.toNat) (by omega);refine⟨2*u.toNat,by omega,bJ,by rw[h6];decide,?_⟩;unfold kT;omega
theorem zC{t:List ah}(hr:bf t)(skip:List Int):∀l n,lv n=l→n<63→n+2^l≤t.length→∀x∈fG t skip l n,∃m:Nat,x=(m:Int)∧m<t.length∧(nd t m).kind≠0∧kT m n
  |0,n=>fun hl hn ht x h=>by
    simp only[fG] at h;rcases List.mem_append.1 h with h|h
    · obtain⟨rfl,hk⟩:=FP h;exact⟨n,rfl,by omega,hk,by unfold kT;rw[hl];omega⟩
    · exact IY hr hn (by omega) h
  |l+1,n=>fun hl hn ht x h=>by
    have hp:=Nat.two_pow_pos l;have PH:2^(l+1)=2^l+2^l:=(by rw[Nat.pow_succ];omega);have hl5:=nn n;simp only[fG] at h;split at h
    · obtain⟨k1,k2,k3,k4⟩:=QR n hn l (by omega) hl;rcases List.mem_append.1 h with h|h
      · obtain⟨m,h1,h2,h3,h4⟩:=zC hr skip l (n-2^l) k2 (by omega) (by omega) x h;unfold kT at h4;rw[k2] at h4;exact⟨m,h1,h2,h3,by unfold kT;rw[hl];omega⟩
      · obtain⟨m,h1,h2,h3,h4⟩:=zC hr skip l (n+2^l) k3 k4 (by omega) x h;unfold kT at h4;rw[k3] at h4;exact⟨m,h1,h2,h3,by unfold kT;rw[hl];omega⟩
    · rcases List.mem_append.1 h with h|h
      · obtain⟨rfl,hk⟩:=FP h;exact⟨n,rfl,by omega,hk,by unfold kT;rw[hl];omega⟩
      · exact IY hr hn (by omega) h
theorem Kg:∀m≤5,∀n<2*2^m-1,n+2^lv n≤2*2^m-1:=by decide+kernel
theorem CK{t:List ah}(hr:bf t)(skip:List Int){n:Nat}(ht:n<t.length){x:Int}(h:x∈bC t n skip):∃m:Nat,x=(m:Int)∧m<t.length∧(nd t m).kind≠0∧kT m n:=by
  obtain⟨bT,kq⟩:Fit (aI t)∧t.length=2*aI t-1:=by
    rcases bG (t:=t) with h|h
    · exact absurd h hr.1
    · exact h
  have oZ:=bT.le;unfold bC at h;rw[if_pos ⟨by omega,by omega,hr⟩,Int.toNat_natCast] at h;refine zC hr skip _ n rfl (by omega) ?_ x h;obtain⟨m,hm,he⟩:=bT.pow;rw[kq,he];exact Kg m hm n (by rw[←he];omega)
def NT:Bool:=(List.range 6).all fun m=>(List.range (2^m)).all fun leaf=>(List.range (az leaf (2^m)).length).all fun i=>(List.range (2*2^m-1)).all fun u=>!decide (kT u (bY (nodeAt leaf (2^m) i)))||decide (u∉az leaf (2^m))
theorem FQ:NT=true:=by decide+kernel
theorem LY{leaf l:Nat}(hl:Fit l)(h:leaf<l){i:Nat}(hi:i<(az leaf l).length){u:Nat}(hu:u<2*l-1)(hs:kT u (bY (nodeAt leaf l i))):u∉az leaf l:=by
  obtain⟨m,hm,rfl⟩:=hl.pow;have k:=FQ;unfold NT at k;have k1:=List.all_eq_true.1 k m (List.mem_range.2 (by omega));have k2:=List.all_eq_true.1 k1 leaf (List.mem_range.2 h);have k3:=List.all_eq_true.1 k2 i (List.mem_range.2 hi);have k4:=List.all_eq_true.1 k3 u (List.mem_range.2 hu);simpa[hs] using k4
def LD(leaf l own:Nat):Int:=cd (fun i=>decide (lo ((az leaf l).getD i 0)≤own∧own≤hi ((az leaf l).getD i 0))) (az leaf l).length 0
end Go.AM
namespace Go.Proofs.YtbiefppedlodiaaGreatDoor
open Go Go.AM Go.Proofs Tryz
variable{Γ:Nat→List AV}
theorem z7(h:bu)(n:Int)(s:AS):aj prog Γ 131 [.agg h.cells,.cN [.v (.int .i64 n)]] s (fun r s'=>r=.v (.bool (h.node==n))∧s'=s):=by
 refine aa func131 rfl ntmps131 results131 (by simp) ?_;obtain⟨hn,hk⟩:=h;simp only[bu.cells];refine aX 2 (by decide) ?_;intro K hK;refine jM ?_;intro o1 h1;refine hK _ _ o1 _ rfl h1 ?_;clear hK K h1;refine jA ?_;exact jJ
theorem EN(h:bu)(l:List Int)(hl:l.length≤2^61)(s:AS):aj prog Γ 83 [.agg h.cells,.cN [aG l .any]] s (fun r s'=>r=.v (.bool (decide (h.node∈l)))∧s'=s):=by
 refine aa func83 rfl ntmps83 results83 (by simp) ?_;obtain⟨hn,hk⟩:=h;have hc:=fun s=>iJ (Γ:=Γ) l hn hl s;simp only[bu.cells];refine aX 2 (by decide) ?_;intro K hK;refine jM ?_;intro o1 h1;refine hK _ _ o1 _ rfl h1 ?_;clear hK K h1;refine jK (hc _) ?_;rintro s1 rfl;exact jJ
theorem EL(hG:Γ 3=fi.map oJ)(x own:Int)(s:AS):aj prog Γ 78 [.v (.int .i64 x),.cN [.v (.int .i64 own)]] s (fun r s'=>r=.v (.bool (ep x own))∧s'=s):=by
 refine aa func78 rfl ntmps78 results78 (by simp) ?_;have hc:=fun s=>m8 (Γ:=Γ) hG x own s;refine jA ?_;refine jK (hc _) ?_;rintro s1 rfl;exact jJ
theorem CD(hG:Γ 3=fi.map oJ)(x own:Int)(s:AS):aj prog Γ 72 [.v (.int .i64 x),.cN [.v (.int .i64 own)]] s (fun r s'=>r=.v (.bool (ep x own))∧s'=s):=by
 refine aa func72 rfl ntmps72 results72 (by simp) ?_;have hc:=fun s=>m8 (Γ:=Γ) hG x own s;refine jA ?_;refine jK (hc _) ?_;rintro s1 rfl;exact jJ
theorem EM(p:dN)(a i:Nat)(hi:a+i<p.steps.length)(hp:p.steps.length≤2^60)(s:AS):aj prog Γ 80 [.v (.int .i64 i),.cN p.cells,.cN [.v (.int .i64 a)]] s (fun r s'=>r=.v (.int .u64 ((p.steps.getD (a+i) ⟨0,[]⟩).key:Nat))∧s'=s):=by
 refine aa func80 rfl ntmps80 results80 (by simp) ?_;obtain⟨pk,pp,ps⟩:=p;simp only at hi hp⊢;have cT:=mW (c:=cy.cells) (k:=2) (fun _=>rfl) hi;have F4:ps.getD (a+i) ⟨0,[]⟩=ps[a+i]:=(by simp[List.getD,hi]);rw[F4];simp only[dN.cells];generalize hY:aK cy.cells ps=Y at *
 generalize ps[a+i]=q at *
 obtain⟨qk,qs⟩:=q;unfold cy.cells at cT;have e1:dQ .i64 (a:Int) (i:Int)=((a+i:Nat):Int):=(by rw[ec (by omega)];rfl);have cA:(0:Int)≤((a+i:Nat):Int):=(by omega);have bJ:((a+i:Nat):Int)<(ps.length:Int):=(by omega);refine jA ?_;refine jB (Ai @e1 (Ai @cA (Ai @bJ @cT))) ?_;exact jJ
theorem CE(t:List ah)(ht:t.length≤2^60)(gG:List Nat)(hu:gG.length≤2^60)(a i:Nat)(hi:a+i<gG.length)(rm:gG.getD (a+i) 0<t.length)(s:AS):aj prog Γ 75 [.v (.int .i64 i),.cN [aW t],.cN [aG (aP gG) .any],.cN [.v (.int .i64 a)]] s (fun r s'=>r=.v (.int .u64 ((nd t (gG.getD (a+i) 0)).key:Nat))∧s'=s):=by
 refine aa func75 rfl ntmps75 results75 (by simp) ?_;have cT:=dh rm;have hS:(List.take 1 (List.drop (a+i) ((aP gG).map aJ)))[0]? =some (AV.v (.int .i64 (gG.getD (a+i) 0:Nat))):=by
  simp[List.getElem?_take,aP,hi,aJ]
 have hlen:=br gG;unfold aW aG;rw[hlen];generalize hX:aK ah.cells t=X at *
 generalize aP gG=U at *
 generalize hue:gG.getD (a+i) 0=u at *
 generalize hN:nd t u=N at *
 obtain⟨n1,n2,n3,n4,n5⟩:=N;unfold ah.cells at cT;have e1:dQ .i64 (a:Int) (i:Int)=((a+i:Nat):Int):=(by rw[ec (by omega)];rfl);have cA:(0:Int)≤((a+i:Nat):Int):=(by omega);have bJ:((a+i:Nat):Int)<(gG.length:Int):=(by omega);have pb:(0:Int)≤((u:Nat):Int):=(by omega);have ns:((u:Nat):Int)<(t.length:Int):=(by omega);refine jA ?_;refine bj T.mixed [] (by kernel_rfl) ?_;intro K hK;refine jV (Ai @e1 (Ai @cA (Ai @bJ (Ai @hS (Ai @pb (Ai @ns @cT)))))) hK ?_;clear hK K;exact jJ
def iO(d:List UInt8)(i n:Nat):List UInt8:=Kdf.label d FO [UInt8.ofNat i,UInt8.ofNat n] 32
theorem LR(d:List UInt8)(i n:Nat):(iO d i n).length≤32:=by
 unfold iO Kdf.label;split
 ·rw[Kdf.gU];decide
 ·exact Nat.zero_le _
theorem CM(dU:Γ 0=eA Sha.H0)(gy:Γ 1=Sha.K.map wV)(d:List UInt8)(hd:d.length≤2^36)(i n:Nat)(hi:i<256)(hn:n<256)(s:AS):aj prog Γ 108 [al d .any,.v (.int .i64 i),.v (.int .i64 n)] s (fun r s'=>r=al (iO d i n) .any∧s'=s):=by
 refine aa func108 rfl ntmps108 results108 (by simp) ?_;have hc:=fun s=>kB (Γ:=Γ) dU gy d FO [UInt8.ofNat i,UInt8.ofNat n] 32 hd (by decide) (by simp) (by decide) s;have zE:∀s,aj prog Γ 102 [al d .any,.v (.string ⟨FO.toArray⟩),.sl 1 2 [.v (.int .u8 (cE .u8 (i:Int))),.v (.int .u8 (cE .u8 (n:Int)))] .new,.v (.int .i64 32)] s (fun r s'=>r=.eu [al (iO d i n) .any,.v (.bool (Kdf.fits FO [UInt8.ofNat i,UInt8.ofNat n] 32))]∧s'=s):=by
  intro s;rw[←pA,←pA];exact aj.gF (gE.aE.cons (AV.aE.refl _) (gE.aE.cons (AV.aE.refl _) (gE.aE.cons AV.bN (gE.aE.cons (AV.aE.refl _) gE.aE.nil)))) (hc s)
 clear hc;generalize iO d i n=y at *
 unfold al FO at zE;unfold al;refine jA ?_;refine wS fun K hK=>?_;simp only[↓DN,Qa,Qb,Qc,Qd,Qe,Qf,Qg,Qh,reduceCtorEq,↓reduceIte,Na,Nb,Nc,Nk,Nf,Ng,Nh,Za,Zb,Zc,TT,List.replicate_succ,List.replicate_zero];refine ad (zE _) ?_;rintro r s1 ⟨rfl,rfl⟩;refine jR hK ?_;clear hK K;refine jA ?_;exact jJ
def lZ(x:List UInt8):Nat:=3^pX x%PP
def dT(x:List UInt8)(gG:List Nat):List bu:=(List.range gG.length).map fun i=>⟨(gG.getD i 0:Nat),pX (b7 x i)⟩
def pW(x:List UInt8)(n:Nat)(jc:Nat→Nat):Bool:=(List.range n).all fun i=>decide (lZ (b7 x i)=jc i)
def iH(x:List UInt8)(gG:List Nat)(jc:Nat→Nat):List bu×List UInt8×Bool:=
 if pW x gG.length jc=true then(dT x gG,b7 x gG.length,true) else([],[],false)
theorem lY(x:List UInt8)(gG:List Nat):(dT x gG).length=gG.length:=by simp[dT]
theorem FR(x:List UInt8)(gG:List Nat){i:Nat}(h:i<gG.length):(dT x gG).take (i+1)=(dT x gG).take i++[⟨(gG.getD i 0:Nat),pX (b7 x i)⟩]:=by
 rw[List.take_succ_eq_append_getElem (by rw[lY];exact h)];simp[dT]
theorem vY{x:List UInt8}{n:Nat}{jc:Nat→Nat}(h:∀j,j<n→lZ (b7 x j)=jc j):pW x n jc=true:=by
 unfold pW;rw[List.all_eq_true];intro i hi;rw[decide_eq_true (h i (List.mem_range.1 hi))]
theorem Du{x:List UInt8}{n:Nat}{jc:Nat→Nat}{i:Nat}(hi:i<n)(h:lZ (b7 x i)≠jc i):pW x n jc=false:=by
 unfold pW;rw[List.all_eq_false];exact⟨i,List.mem_range.2 hi,by simpa using h⟩
theorem rn(dU:Γ 0=eA Sha.H0)(gy:Γ 1=Sha.K.map wV)(x:List UInt8)(hx:x.length≤2^36)(gG:List Nat)(hu:gG.length≤2^30)(k:FuncId)(hk:ai prog k=true)(cg:List AV)(jc:Nat→Nat)
  (hp:∀i,i<gG.length→∀s,aj prog Γ k (.v (.int .i64 i)::cg) s (fun r s'=>r=.v (.int .u64 (jc i:Nat))∧s'=s)) (s:AS):
  aj prog Γ 74 [al x .any,aG (aP gG) .any,.qE k cg] s (fun r s'=>r=.eu [eg (iH x gG jc).1,al (iH x gG jc).2.1 .any,.v (.bool (iH x gG jc).2.2)]∧s'=s):=by
 refine aa func74 rfl ntmps74 results74 (by simp) ?_;obtain⟨R,hR⟩:∃R,R=iH x gG jc:=⟨_,rfl⟩;rw[←hR];have hS:∀i,i<gG.length→(List.take 1 (List.drop i ((aP gG).map aJ)))[0]? =some (AV.v (.int .i64 (gG.getD i 0:Nat))):=by
  intro i hi;simp[List.getElem?_take,aP,hi,aJ]
 have hlen:=br gG;obtain⟨L,hL⟩:∃L,L=dT x gG:=⟨_,rfl⟩;have hLt:=fun i(h:i<gG.length)=>FR x gG h;rw[←hL] at hLt;have hs:s.le s:=AS.le.refl _;have xx:∀a b:AV,nG 2 [a,b]=[a,b]:=fun _ _=>rfl;unfold aG al;rw[hlen];generalize aP gG=U at *
 refine jA ?_;refine jA ?_;refine wK fun K hK=>?_;refine jA ?_;refine ag ?_;refine aD (fun E s2=>∃(i:Nat)(y:List UInt8)(z:AV),i≤gG.length∧y=b7 x i∧(∀j,j<i→lZ (b7 x j)=jc j)∧E 15=.v (.int .i64 i)∧E 14=.v (.int .i64 gG.length)∧E 13=.sl 1 gG.length (U.map aJ) .any∧E 0=.sl 1 y.length (y.map ae) .any∧E 2=.qE k cg∧E 9=z∧cZ 2 s s2 z i (aK bu.cells (L.take i))∧s.le s2)
  (fun E _=>match E 15 with |.v (.int _ i)=>gG.length-i.toNat|_=>0) ?_ ?_
 ·exact⟨0,x,bU,Nat.zero_le _,rfl,fun j h=>absurd h (Nat.not_lt_zero _),rfl,rfl,rfl,rfl,rfl,rfl,cZ.nil _ _ _,hs⟩
 ·rintro E1 s2 ⟨i,y,z,hi,hy,F4,g15,g14,g13,g0,g2,g9,hz,hle⟩ -
  have hyl:=zB x hx i;rw[←hy] at hyl;by_cases aY:i<gG.length
  ·have bJ:((i:Nat):Int)<((gG.length:Nat):Int):=(by omega);have cA:(0:Int)≤((i:Nat):Int):=(by omega);have N7:=hS i aY;have eo:=hLt i aY;rw[←hy] at eo;have c1:=fun s=>mY (Γ:=Γ) dU gy y hyl s;have c2:=fun s=>eX (Γ:=Γ) (pX y) (Ip y) s;have c3:=hp i aY;have c4:=fun s=>lk (Γ:=Γ) dU gy y eM hyl (by decide) s;have hy2:Kdf.derive y eM=b7 x (i+1):=(by rw[hy];rfl);have hpb:lZ (b7 x i)=3^pX y%PP:=(by rw[←hy];rfl);generalize hky:pX y=ky at *
   generalize hpy:3^ky%PP=py at *
   generalize gG.getD i 0=u at *
   generalize Kdf.derive y eM=y2 at *
   unfold al eM at c4;unfold al at c1;refine jB (Ai @g15 (Ai @g14 (decide_eq_true bJ))) ?_;refine wK fun K2 aU=>?_;refine jE ?_;refine ab ?_;refine aU _ _ ?_;clear aU K2;refine wK fun K3 bq=>?_;refine ag ?_;refine jB (Ai @g13 (Ai @g15 (Ai @bJ (Ai @cA @N7)))) ?_;refine jS @g0 fun K hK=>?_;refine ad (c1 _) ?_;rintro r s3 ⟨rfl,rfl⟩;refine jR hK ?_;clear hK K;refine wK fun K4 dM=>?_;refine jS (Ai @g15 @g2) fun K hK=>?_;refine ad (c2 _) ?_;rintro r s4 ⟨rfl,rfl⟩;refine jN (Ai @g15 @g2) ?_;refine⟨hk,?_⟩;refine ad (c3 _) ?_;rintro r s5 ⟨rfl,rfl⟩;by_cases he:py=jc i
   ·have e1:((py:Int) != (jc i:Int))=false:=(by rw[he];simp);refine jV @e1 hK ?_;clear hK K;refine jF ?_;refine ab ?_;refine dM _ _ ?_;clear dM K4;refine wK fun K5 ju=>?_;have bX:∀(E:Env)(s6:AS)(z':AV),E 15=.v (.int .i64 i)→E 14=.v (.int .i64 gG.length)→E 13=.sl 1 gG.length (U.map aJ) .any→E 0=.sl 1 y.length (y.map ae) .any→E 2=.qE k cg→E 9=z'→cZ 2 s s6 z' (i+1) (aK bu.cells (L.take (i+1)))→s.le s6→K5 E s6:=by
     intro E s6 z' f15 f14 f13 f0 f2 f9 fz zZ;refine ju _ _ ?_;clear ju K5;refine jU @f0 fun K hK=>?_;refine ad (c4 _) ?_;rintro r s7 ⟨rfl,rfl⟩;refine jR hK ?_;clear hK K;refine bq _ _ ?_;clear bq K3;refine jD (Ai @f15 (bd i (by omega))) ?_;refine⟨⟨i+1,y2,z',aY,hy2,?_,rfl,f14,f13,rfl,f2,f9,fz,zZ⟩,?_⟩
     ·intro j hj;by_cases e:j=i
      ·subst e;rw[hpb,he]
      ·exact F4 j (by omega)
     ·simp only[g15,aB,↓reduceIte];omega
    clear bq;rcases hz with⟨rfl,fD,sF⟩|⟨tk,ek,rfl,pc,tJ⟩
    ·refine wE fun K hK=>?_;simp only[↓DN,Qa,Qb,Qc,Qd,Qe,Qf,Qg,Qh,reduceCtorEq,↓reduceIte,Na,Nb,Nc,Nk,Nf,Ng,Nh,Za,Zb,Zc,TT,g9,bU,xx];intro tk pc;refine hK _ _ (bX _ _ (.sl 2 1 [.v (.int .i64 (u:Nat)),.v (.int .u64 (ky:Nat))] (.own tk 0)) g15 g14 g13 g0 g2 rfl ?_ ?_)
     ·refine .inr ⟨tk,0,?_,by simp[AS.bA],aZ hle pc⟩;rw[eo,ke,sF];subst fD;rfl
     ·exact AS.bn hle (aZ hle pc) 0
    ·refine jU (Ai @g9 (Ai @pc @xx)) fun K hK=>?_;refine⟨by omega,by omega,hK _ _ (bX _ _ (.sl 2 (i+1) (aK bu.cells (L.take i)++[.v (.int .i64 (u:Nat)),.v (.int .u64 (ky:Nat))]) (.own tk (ek+1))) g15 g14 g13 g0 g2 rfl ?_ ?_)⟩
     ·exact .inr ⟨tk,ek+1,by rw[eo,ke];rfl,by simp[AS.bA],tJ⟩
     ·exact AS.bn hle tJ (ek+1)
   ·have e1:((py:Int) != (jc i:Int))=true:=by
     rw[bne_iff_ne];omega
    have hRn:R=([],[],false):=by
     rw[hR];unfold iH;rw[Du aY (by rw[hpb];exact he)];rfl
    refine jV @e1 hK ?_;clear hK K;refine jE ?_;refine jA ?_;refine jI ?_;rw[hRn];exact⟨_,_,AV.qn AV.aM AV.aM (AV.aE.refl _),hle,rfl,rfl⟩
  ·have bJ:¬((i:Nat):Int)<((gG.length:Nat):Int):=(by omega);obtain rfl:i=gG.length:=(by omega);have hRg:R=(L,b7 x gG.length,true):=by
    rw[hR,hL];unfold iH;rw[vY F4];rfl
   refine jB (Ai @g15 (Ai @g14 (decide_eq_false bJ))) ?_;refine wK fun K2 aU=>?_;refine jF ?_;refine aC ?_;simp only[aA,aq,if_true];refine hK _ _ ?_;clear hK aU K2 K;refine jB (Ai @g9 @g0) ?_;refine jI ?_;rw[hRg];rw[List.take_of_length_le (by rw[hL,lY];exact Nat.le_refl _)] at hz;have YK:L.length=gG.length:=(by rw[hL,lY]);unfold eg;simp only;rw[YK,←hy];exact⟨_,_,AV.qn hz.aE (AV.aE.refl _) (AV.aE.refl _),hle,rfl,rfl⟩
end Go.Proofs.YtbiefppedlodiaaGreatDoor
