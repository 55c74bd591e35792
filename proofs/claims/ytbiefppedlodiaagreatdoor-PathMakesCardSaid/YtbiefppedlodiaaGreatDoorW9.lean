/- Contracts of functions, each walked once; each theorem states its conditions. -/
import Derived.Test.YtbiefppedlodiaaGreatDoorAMp6
import Derived.Test.YtbiefppedlodiaaGreatDoorW1
import Derived.Test.YtbiefppedlodiaaGreatDoorW8
open BitVec renaming toNat_ofNat -> cA
open ByteArray renaming mk -> cu
open Go.IntKind renaming bits -> aA
open Go.IntWalk renaming i64_in -> b8
open List renaming drop -> aO, ext_getElem? -> bg, getD_eq_getElem?_getD -> aQ, getElem?_eq_getElem -> af, getElem?_eq_none -> aR, getElem?_map -> aH, length_set -> bR, length_take -> aU, map_append -> aD, map_congr_left -> bu, range -> aq, replicate -> ah, take -> aP, take_succ_eq_append_getElem -> ad
open Nat renaming min_eq_left -> cL, mod_eq_of_lt -> aN, pow_le_pow_right -> bw, xor_lt_two_pow -> cM
open Option renaming getD_some -> bo, map_some -> cd
set_option linter.unusedSimpArgs false
set_option linter.unusedVariables false
open Nat renaming reduceLT -> Na, reduceLeDiff -> Nb, reduceEqDiff -> Nc, reduceAdd -> Nk, reduceMul -> Nf, reducePow -> Ng, reduceSub -> Nh, reduceBEq -> Nz
open Int renaming reduceLT -> Za, reduceLE -> Zb, reduceToNat -> Zc
open And renaming intro -> Ai
open Go.AM renaming ashift -> Qa, aconv -> Qb, aindexAddr -> Qc, aindex -> Qd, aslice -> Qe, abuiltin -> Qf, awp_reg_seq -> wS, awp_reg_end -> wE, awp_seq_k -> wK, awp_cond_k -> wC
open Go.AM.AV renaming cells -> Qg, one -> Qh
set_option maxRecDepth 100000
set_option maxHeartbeats 8000000
namespace Go.Proofs.YtbiefppedlodiaaGreatDoor
open Go Go.AM Go.Proofs Tryz
variable{Γ:Nat->List AV}
theorem F4(key:List UInt8)(hk:key.length=16)(s:AS):
  dS prog Γ 240 [.agg (key.map cU),.agg (Aes.sb.map cU)] s (fun r s'=>r=.agg ((fJ key).map cU)∧s'=s):=by
 refine fm func240 rfl ntmps240 results240 (by simp) ?_;have sD:(key.map cU).length=16:=(by rw[List.length_map,hk]);have N7:List.take 16 (key.map cU)=key.map cU:=List.take_of_length_le (by omega);have xdY:=gy key;have wY:(Aes.sb.map cU).length=256:=(by rw[List.length_map,Aes.oU]);refine jS @z167 fun K hK=>?_;intro o2 tj o3 FR;obtain⟨ye,FT⟩:=AS.km FR;intro o4 IC;obtain⟨Xa,QB,A5⟩:=qG IC;refine hK _ _ ?_;clear hK K;refine jS @z167 fun K hK=>?_;intro o5 Cj;obtain⟨TG,h53,Wy,NX⟩:=BV Cj;refine hK _ _ ?_;clear hK K;generalize pZ:(((s.set o2 (key.map cU)).set o3 (Aes.sb.map cU)).set o4 (List.replicate 176 (bV 0))).set o5 (List.replicate 176 (bV 0))=s0 at *
 have j2:s0.dD o2=some (key.map cU):=(by rw[<-pZ,AS.cO _ Wy.symm,AS.cO _ QB.symm,AS.cO _ ye.symm,AS.bG]);have j3:s0.dD o3=some (Aes.sb.map cU):=(by rw[<-pZ,AS.cO _ h53.symm,AS.cO _ Xa.symm,AS.bG]);have j4:s0.dD o4=some (List.replicate 176 (bV 0)):=(by rw[<-pZ,AS.cO _ TG.symm,AS.bG]);have j5:s0.dD o5=some (List.replicate 176 (bV 0)):=(by rw[<-pZ];exact AS.bG _ _ _);have hle:s.le s0:=(by rw[<-pZ];exact AS.dW (AS.dW (AS.dW (AS.dW (AS.le.refl s) tj _) FT _) A5 _) NX _);clear pZ FR IC Cj;have yo:(List.replicate 176 (bV 0)).length=176:=(by simp);rw[<-om (Aes.ak key) 176] at j5;generalize List.replicate 176 (bV 0)=Z at *
 have Uz:=EN (Aes.ak key) (fun _=>0) 176 key 0 (fun k h=>by rw[Nat.zero_add,Aes.T5 k (by omega)]);rw[Nat.zero_add,hk] at Uz;have zX:=iC (Aes.ak key) (fun _=>0) 176 0;generalize eM (Aes.ak key) (fun _=>0) 176 0=R0 at *
 refine jB (Ai @j2 (Ai @j5 (Ai @sD (Ai @N7 (Ai @xdY (Ai @zX (Ai @Uz (Ai @Wy (Ai @Wy.symm (show(0:Int)<((11:Nat):Int) from by decide)))))))))) ?_;clear Uz;generalize lA:s0.set o5 (eM (Aes.ak key) (fun _=>0) 176 16)=s1 at *
 have q3:s1.dD o3=some (Aes.sb.map cU):=(by rw[<-lA,AS.cO _ h53.symm];exact j3);have q4:s1.dD o4=some Z:=(by rw[<-lA,AS.cO _ TG.symm];exact j4);have q5:s1.dD o5=some (eM (Aes.ak key) (fun _=>0) 176 16):=(by rw[<-lA];exact AS.bG _ _ _);have uL:s.le s1:=(by rw[<-lA];exact AS.dW hle NX _);clear lA j2 j3 j4 j5 hle;refine jA ?_;refine wK fun K hK=>?_;refine jA ?_;refine dH ?_;refine dU (fun E s2=>∃q:Nat,q<=10∧E 3=.ptr o3 0∧E 4=.ptr o4 0∧E 5=.ptr o5 0∧E 6=bV (Aes.GY q)∧E 7=.v (.int .i64 ((q+1:Nat):Int))∧s2.dD o3=some (Aes.sb.map cU)∧s2.dD o4=some Z∧s2.dD o5=some (eM (Aes.ak key) (fun _=>0) 176 ((q+1)*16))∧s.le s2)
  (fun E _=>match E 7 with |.v (.int _ i)=>11-i.toNat|_=>0) ?_ ?_
 ·exact⟨0,by omega,rfl,rfl,rfl,rfl,rfl,q3,q4,q5,uL⟩
 ·clear q3 q4 q5 uL;rintro E1 s2 ⟨q,hq,e3,e4,e5,e6,e7,j3,j4,j5,hle⟩ -
  refine wK fun K2 eH=>?_;by_cases LW:q<10
  ·have hl:=Aes.x9 hk q;refine jB (Ai @e7 (decide_eq_true (show((q+1:Nat):Int)<=10 by omega))) ?_;refine jE ?_;refine dX ?_;refine eH _ _ ?_;clear eH K2;refine wK fun K3 eX=>?_;refine dH ?_;have hld:=Ha key hk (fun _=>0) q ((q+1)*16) (by omega) (Nat.le_refl _);have tM:gR .i64 ((q+1:Nat):Int) 1=((q:Nat):Int):=ju (q+1) 1 (by omega) (by omega);have uK:=iC (Aes.ak key) (fun _=>0) 176 ((q+1)*16);have Kd:((Aes.kr key q).map cU).length=16:=(by rw[List.length_map,hl]);have xdZ:=gy (Aes.kr key q);have k0:(0:Int)<=((q:Nat):Int):=(by omega);have k1:((q:Nat):Int)<((11:Nat):Int):=(by omega);have k2:q*16+16<=176:=(by omega);have LG:16<=(List.drop (q*16) (eM (Aes.ak key) (fun _=>0) 176 ((q+1)*16))).length:=(by rw[List.length_drop,uK];omega);generalize hO:eM (Aes.ak key) (fun _=>0) 176 ((q+1)*16)=O at *
   generalize hW:(Aes.kr key q).map cU=W at *
   refine wS fun K hK=>?_;simp only[↓DN,Qa,Qb,Qc,Qd,Qe,Qf,Qg,Qh,reduceCtorEq,↓reduceIte,Na,Nb,Nc,Nk,Nf,Ng,Nh,Za,Zb,Zc,TT,e5,e7,tM,j5,hld,Kd,xdZ,k0,k1,k2,uK,LG,Nat.le_refl];intro o8 MZ;rw[XL,fj (List.replicate 16 (bV 0)) W (by rw[Kd];simp)];refine hK _ _ ?_;clear hK K;have n83:o8≠o3:=(fun e=>by rw[e,j3] at MZ;cases MZ);have n84:o8≠o4:=(fun e=>by rw[e,j4] at MZ;cases MZ);have Yz:o8≠o5:=(fun e=>by rw[e,j5] at MZ;cases MZ);have hs8:s.dD o8=none:=by
    cases h:s.dD o8 with
    |none=>rfl
    |some cs=>rw[hle.dD _ _ h] at MZ;cases MZ
   generalize LY:s2.set o8 W=s3 at *
   have q3:s3.dD o3=some (Aes.sb.map cU):=(by rw[<-LY,AS.cO _ n83.symm];exact j3);have q4:s3.dD o4=some Z:=(by rw[<-LY,AS.cO _ n84.symm];exact j4);have q5:s3.dD o5=some O:=(by rw[<-LY,AS.cO _ Yz.symm];exact j5);have q8:s3.dD o8=some W:=(by rw[<-LY];exact AS.bG _ _ _);have mi:s.le s3:=(by rw[<-LY];exact AS.dW hle hs8 _);clear LY j3 j4 j5 MZ hle;have k3:(0:Int)<=((q+1:Nat):Int):=(by omega);have k4:((q+1:Nat):Int)<((11:Nat):Int):=(by omega);refine jB (Ai @e5 (Ai @e7 (Ai @k3 @k4))) ?_;rw[<-hO,<-Uy key (fun _=>0) q] at q5;clear hld uK LG hO O;refine wK fun K4 jm=>?_;refine jA ?_;refine dH ?_;refine dU (fun E s4=>∃i:Nat,i<=4∧E 3=.ptr o3 0∧E 4=.ptr o4 0∧E 5=.ptr o5 0∧E 6=bV (Aes.GY q)∧E 7=.v (.int .i64 ((q+1:Nat):Int))∧E 8=.ptr o8 0∧E 9=.ptr o5 ((q+1)*16)∧E 24=.v (.int .i64 i)∧s4.dD o3=some (Aes.sb.map cU)∧s4.dD o4=some Z∧s4.dD o5=some (eM (Jn key q) (fun _=>0) 176 ((q+1)*16+i))∧s4.dD o8=some W∧s.le s4)
    (fun E _=>match E 24 with |.v (.int _ i)=>4-i.toNat|_=>0) ?_ ?_
   ·exact⟨0,by omega,e3,e4,e5,e6,e7,rfl,rfl,rfl,q3,q4,q5,q8,mi⟩
   ·clear q3 q4 q5 q8 mi;rintro E4 s4 ⟨i,hi,g3,g4,g5,g6,g7,g8,g9,g24,q3,q4,q5,q8,mi⟩ -
    by_cases et:i<4
    ·refine jB (Ai @g24 (decide_eq_true (show(i:Int)<4 by omega))) ?_;refine wK fun K6 ll=>?_;refine jE ?_;refine dX ?_;refine ll _ _ ?_;clear ll K6;refine wK fun K7 v7=>?_;refine dH ?_;refine jB @g24 ?_;have fO:=jo (Jn key q) (fun _=>0) 176 ((q+1)*16+i) _ (Xb key hk q i et);have hlen:=iC (Jn key q) (fun _=>0) 176 ((q+1)*16+i);have a1:=Ut i (by omega);have a2:=QL (i+1);have a3:=xdX ((i+1)%4) (by omega);have d0:=iG (l:=Aes.kr key q) i (by omega);have d1:=iG (l:=Aes.kr key q) (12+(i+1)%4) (by omega);rw[hW] at d0 d1;have m0:(0:Int)<=(i:Int):=(by omega);have m1:(i:Int)<((16:Nat):Int):=(by omega);have m2:(0:Int)<=((12+(i+1)%4:Nat):Int):=(by omega);have m3:((12+(i+1)%4:Nat):Int)<((16:Nat):Int):=(by omega);have mc:(q+1)*16+i+1<=176:=(by omega);have mc2:(q+1)*16+i<176:=(by omega);generalize DG:eM (Jn key q) (fun _=>0) 176 ((q+1)*16+i+1)=R' at *
     generalize eM (Jn key q) (fun _=>0) 176 ((q+1)*16+i)=R at *
     generalize 12+(i+1)%4=m at *
     have hx:=((Aes.kr key q).getD m 0).toNat_lt;have ds:=iG (l:=Aes.sb) ((Aes.kr key q).getD m 0).toNat (by rw[Aes.oU];omega);rw[QO] at ds;generalize Aes.S ((Aes.kr key q).getD m 0)=y at *
     generalize (Aes.kr key q).getD m 0=x at *
     generalize (Aes.kr key q).getD i 0=v at *
     have m4:(0:Int)<=((x.toNat:Nat):Int):=(by omega);have m5:((x.toNat:Nat):Int)<((256:Nat):Int):=(by omega);generalize ZH:Aes.sb.map cU=Y2 at *
     refine gl T.mixed [(o8,W),(o3,Y2),(o5,R)] [] [4,10,12] [16] (by kernel_rfl) (by simp only[dZ,ec,and_true];simp[AS.set,dY,q3,q5,q8]) ?_;intro K hK;simp only[↓eN,↓eD,gY,gS,eg,ej,dZ,ec,List.any_cons,List.any_nil,List.contains_cons,List.contains_nil,Nat.reduceBEq,Bool.or_false,Bool.or_true,Bool.or_self,Bool.false_or,↓DN,Qa,Qb,Qc,Qd,Qe,Qf,Qg,Qh,reduceCtorEq,↓reduceIte,Na,Nb,Nc,Nk,Nf,Ng,Nh,Za,Zb,Zc,TT,g3,g5,g8,g9,g24,m0,m1,m2,m3,m4,m5,mc,mc2,d0,d1,ds,a1,a2,a3,qy,n83,n83.symm,Yz,Yz.symm,h53,h53.symm,q3,q5,q8,cU,sO,fO,hlen,Kd,wY];refine hK _ _ ?_;clear hK K;simp only[dn,dJ,if_true,if_false];refine v7 _ _ ?_;clear v7 K7;refine jD (Ai @g24 (fy i (by omega))) ?_;refine⟨⟨i+1,by omega,g3,g4,g5,g6,g7,g8,g9,rfl,by rw[AS.cO _ h53.symm,q3],by rw[AS.cO _ TG.symm];exact q4,by rw[show(q+1)*16+(i+1)=(q+1)*16+i+1 from rfl,DG];exact AS.bG _ _ _,by rw[AS.cO _ Yz];exact q8,AS.dW mi NX _⟩,?_⟩;simp only[g24,dY,↓reduceIte];omega
    ·obtain rfl:i=4:=(by omega);refine jB (Ai @g24 (decide_eq_false (show ¬((4:Nat):Int)<4 by decide))) ?_;refine wK fun K6 ll=>?_;refine jF ?_;refine ep ?_;simp only[dJ,dn,if_true];clear ll K6;refine jm _ _ ?_;clear jm K4;have xd1:=Xc key (fun _=>0) q LW;have hd0:=tJ (Jn key q) (fun _=>0) 176 ((q+1)*16+4) ((q+1)*16) (by omega);rw[if_pos (by omega)] at hd0;have hlen:=iC (Jn key q) (fun _=>0) 176 ((q+1)*16+4);generalize DG:eM (Aes.ak key) (fun _=>0) 176 ((q+1)*16+4)=R' at *
     generalize eM (Jn key q) (fun _=>0) 176 ((q+1)*16+4)=R at *
     generalize Jn key q ((q+1)*16)=x at *
     have mc:(q+1)*16+1<=176:=(by omega);have mc2:(q+1)*16<176:=(by omega);refine iT T.mixed [(o5,R)] [] [3] [8] (by kernel_rfl) (by simp only[dZ,ec,and_true];simp[AS.set,dY,q5]) ?_;intro K hK;simp only[↓eN,↓eD,gY,gS,eg,ej,dZ,ec,List.any_cons,List.any_nil,List.contains_cons,List.contains_nil,Nat.reduceBEq,Bool.or_false,Bool.or_true,Bool.or_self,Bool.false_or,↓DN,Qa,Qb,Qc,Qd,Qe,Qf,Qg,Qh,reduceCtorEq,↓reduceIte,Na,Nb,Nc,Nk,Nf,Ng,Nh,Za,Zb,Zc,TT,g6,g9,mc,mc2,q5,hd0,cU,sO,xd1,hlen,show(0:Int)<((16:Nat):Int) from by decide];refine hK _ _ ?_;clear hK K;generalize Jd:s4.set o5 R'=s5 at *
     have t3:s5.dD o3=some (Aes.sb.map cU):=(by rw[<-Jd,AS.cO _ h53.symm];exact q3);have t4:s5.dD o4=some Z:=(by rw[<-Jd,AS.cO _ TG.symm];exact q4);have t5:s5.dD o5=some R':=(by rw[<-Jd];exact AS.bG _ _ _);have t8:s5.dD o8=some W:=(by rw[<-Jd,AS.cO _ Yz];exact q8);have ly:s.le s5:=(by rw[<-Jd];exact AS.dW mi NX _);clear Jd q3 q4 q5 q8 mi hd0 xd1 hlen;rw[<-DG] at t5;clear DG R';refine wK fun K4 jm=>?_;refine jA ?_;refine dH ?_;refine dU (fun E s6=>∃i:Nat,4<=i∧i<=16∧E 3=.ptr o3 0∧E 4=.ptr o4 0∧E 5=.ptr o5 0∧E 6=bV (Aes.GY q)∧E 7=.v (.int .i64 ((q+1:Nat):Int))∧E 8=.ptr o8 0∧E 9=.ptr o5 ((q+1)*16)∧E 11=.v (.int .i64 i)∧s6.dD o3=some (Aes.sb.map cU)∧s6.dD o4=some Z∧s6.dD o5=some (eM (Aes.ak key) (fun _=>0) 176 ((q+1)*16+i))∧s6.dD o8=some W∧s.le s6)
      (fun E _=>match E 11 with |.v (.int _ i)=>16-i.toNat|_=>0) ?_ ?_
     ·exact⟨4,by omega,by omega,g3,g4,g5,g6,g7,g8,g9,rfl,t3,t4,t5,t8,ly⟩
     ·clear t3 t4 t5 t8 ly g3 g4 g5 g6 g7 g8 g9;rintro E6 s6 ⟨i,hi4,hi,g3,g4,g5,g6,g7,g8,g9,g11,t3,t4,t5,t8,ly⟩ -
      refine wK fun K6 ll=>?_;by_cases et:i<16
      ·refine jB (Ai @g11 (decide_eq_true (show(i:Int)<16 by omega))) ?_;refine jE ?_;refine dX ?_;refine ll _ _ ?_;clear ll K6;refine wK fun K7 v7=>?_;refine dH ?_;have fO:=jo (Aes.ak key) (fun _=>0) 176 ((q+1)*16+i) _ (QN key hk q i hi4 et);have hlen:=iC (Aes.ak key) (fun _=>0) 176 ((q+1)*16+i);have a1:gR .i64 (i:Int) 4=((i-4:Nat):Int):=ju i 4 hi4 (by omega);have d0:=iG (l:=Aes.kr key q) i (by omega);rw[hW] at d0;have d1:=tJ (Aes.ak key) (fun _=>0) 176 ((q+1)*16+i) ((q+1)*16+(i-4)) (by omega);rw[if_pos (by omega)] at d1;have m0:(0:Int)<=(i:Int):=(by omega);have m1:(i:Int)<((16:Nat):Int):=(by omega);have m2:(0:Int)<=((i-4:Nat):Int):=(by omega);have m3:((i-4:Nat):Int)<((16:Nat):Int):=(by omega);have mc:(q+1)*16+i+1<=176:=(by omega);have mc2:(q+1)*16+i<176:=(by omega);generalize DG:eM (Aes.ak key) (fun _=>0) 176 ((q+1)*16+i+1)=R' at *
       generalize eM (Aes.ak key) (fun _=>0) 176 ((q+1)*16+i)=R at *
       generalize Aes.ak key ((q+1)*16+(i-4))=x at *
       generalize (Aes.kr key q).getD i 0=v at *
       refine gl T.mixed [(o8,W),(o5,R)] [] [4,10] [14] (by kernel_rfl) (by simp only[dZ,ec,and_true];simp[AS.set,dY,t5,t8]) ?_;intro K hK;simp only[↓eN,↓eD,gY,gS,eg,ej,dZ,ec,List.any_cons,List.any_nil,List.contains_cons,List.contains_nil,Nat.reduceBEq,Bool.or_false,Bool.or_true,Bool.or_self,Bool.false_or,↓DN,Qa,Qb,Qc,Qd,Qe,Qf,Qg,Qh,reduceCtorEq,↓reduceIte,Na,Nb,Nc,Nk,Nf,Ng,Nh,Za,Zb,Zc,TT,g5,g8,g9,g11,m0,m1,m2,m3,mc,mc2,d0,d1,a1,Yz,Yz.symm,t5,t8,cU,sO,fO,hlen,Kd];refine hK _ _ ?_;clear hK K;simp only[dn,dJ,if_true,if_false];refine v7 _ _ ?_;clear v7 K7;refine jD (Ai @g11 (fy i (by omega))) ?_;refine⟨⟨i+1,by omega,by omega,g3,g4,g5,g6,g7,g8,g9,rfl,by rw[AS.cO _ h53.symm];exact t3,by rw[AS.cO _ TG.symm];exact t4,by rw[show(q+1)*16+(i+1)=(q+1)*16+i+1 from rfl,DG];exact AS.bG _ _ _,by rw[AS.cO _ Yz];exact t8,AS.dW ly NX _⟩,?_⟩;simp only[g11,dY,↓reduceIte];omega
      ·obtain rfl:i=16:=(by omega);refine jB (Ai @g11 (decide_eq_false (show ¬((16:Nat):Int)<16 by decide))) ?_;refine jF ?_;refine ep ?_;simp only[dJ,dn,if_true];clear ll K6;refine jm _ _ ?_;clear jm K4;refine jU @g6 fun K hK=>?_;refine b6 (qx (Aes.GY q) _) ?_;rintro r s7 ⟨rfl,rfl⟩;simp only[↓fM,↓fi,eZ,↓eN,↓eD,gY,gS,eg,ej,dZ,ec,List.any_cons,List.any_nil,DX,Nat.reduceBEq,↓DN,Qa,Qb,Qc,Qd,Qe,Qf,Qg,Qh,reduceCtorEq,↓reduceIte,Na,Nb,Nc,Nk,Nf,Ng,Nh,Za,Zb,Zc,TT];refine hK _ _ ?_;clear hK K;simp only[dn,dJ,if_true,if_false];refine eX _ _ ?_;clear eX K3;refine jD (Ai @g7 (fy (q+1) (by omega))) ?_;refine⟨⟨q+1,by omega,g3,g4,g5,rfl,rfl,t3,t4,by rw[show(q+1+1)*16=(q+1)*16+16 by omega];exact t5,ly⟩,?_⟩;simp only[e7,dY,↓reduceIte];omega
  ·obtain rfl:q=10:=(by omega);refine jB (Ai @e7 (decide_eq_false (show ¬((10+1:Nat):Int)<=10 by decide))) ?_;refine jF ?_;refine ep ?_;simp only[dJ,dn,if_true];clear eH K2;refine hK _ _ ?_;clear hK K;rw[show(10+1)*16=176 from rfl,lR,show(List.range 176).map (Aes.ak key)=fJ key from rfl] at j5;have AB:((fJ key).map cU).length=176:=(by rw[List.length_map,iX]);have fG:=gy (fJ key);have ir:List.take 176 ((fJ key).map cU)=(fJ key).map cU:=List.take_of_length_le (by omega);generalize (fJ key).map cU=X at *
   refine jS (Ai @e4 (Ai @e5 (Ai @j4 (Ai @j5 (Ai @AB (Ai @ir (Ai @fG (Ai @TG @TG.symm)))))))) fun K hK=>?_;rw[fj Z X (by omega)];refine⟨by omega,hK _ _ ?_⟩;clear hK K;refine eF ?_;refine kJ (v:=.agg X) (o:=o4) (off:=0) e4 (AS.bG _ _ _) (by rw[T.xbL];decide) (by simp only[↓DN,Qa,Qb,Qc,Qd,Qe,Qf,Qg,Qh,reduceCtorEq,↓reduceIte,Na,Nb,Nc,Nk,Nf,Ng,Nh,Za,Zb,Zc,TT,AB,ir]) ?_;exact⟨_,s,AV.dV.refl _,AS.dW hle A5 _,rfl,rfl⟩
theorem Xd(key:List UInt8)(hk:key.length=16)(q:Nat)(hq:q<11):aP 16 (aO (q*16) ((fJ key).map cU))=(Aes.kr key q).map cU:=by
 have h:=Ha key hk (fun _=>0) q 176 hq oM;rw[lR] at h;exact h
theorem DE(key b:List UInt8)(hk:key.length=16)(hb:b.length=16)(s:AS):
  dS prog Γ 218 [.agg (key.map cU),.agg (b.map cU)] s (fun r s'=>r=.agg ((Aes.block key b).map cU)∧s'=s):=by
 refine fm func218 rfl ntmps218 results218 (by simp) ?_;have sD:(key.map cU).length=16:=(by rw[List.length_map,hk]);have N7:List.take 16 (key.map cU)=key.map cU:=List.take_of_length_le (by omega);have HW:(b.map cU).length=16:=(by rw[List.length_map,hb]);have xhJ:List.take 16 (b.map cU)=b.map cU:=List.take_of_length_le (by omega);have wY:(Aes.sb.map cU).length=256:=(by rw[List.length_map,Aes.oU]);have xaG:List.take 256 (Aes.sb.map cU)=Aes.sb.map cU:=List.take_of_length_le (by omega);have xd2:=gy Aes.sb;have UO:((fJ key).map cU).length=176:=(by rw[List.length_map,iX]);have xd3:=gy (fJ key);have xd4:=Xd key hk;have hex:=fun s=>F4 (Γ:=Γ) key hk s;have hbx:=fun s=>Lt (Γ:=Γ) s;have had:=fun s=>zW (Γ:=Γ) b (Aes.kr key 0) hb (Aes.x9 hk 0) s;rw[show Aes.add b (Aes.kr key 0)=Aes.state key b 0 from rfl] at had;have U8:=fun q s=>EM (Γ:=Γ) (Aes.state key b q) (Aes.oV key b q) (q+1==10) s;have XI:=fun q s=>zW (Γ:=Γ) (Aes.OY (Aes.state key b q) (q+1==10)) (Aes.kr key (q+1)) (Aes.IL _ _) (Aes.x9 hk (q+1)) s;have np:∀q,Aes.add (Aes.OY (Aes.state key b q) (q+1==10)) (Aes.kr key (q+1))=Aes.state key b (q+1):=fun q=>rfl;simp only[np] at XI;have VF:List.take 16 ((fJ key).map cU)=(Aes.kr key 0).map cU:=by
  have:=xd4 0 (by omega);rwa [Nat.zero_mul,List.drop_zero] at this
 generalize Aes.sb.map cU=Y at *
 generalize (fJ key).map cU=KS at *
 refine jQ fun K hK=>?_;intro o2 tj o3 FR;obtain⟨ye,FT⟩:=AS.km FR;intro o4 IC;obtain⟨Xa,QB,A5⟩:=qG IC;rw[XL];refine hK _ _ ?_;clear hK K;generalize pZ:((s.set o2 (key.map cU)).set o3 (b.map cU)).set o4 (List.replicate 16 (bV 0))=s0 at *
 have j2:s0.dD o2=some (key.map cU):=(by rw[<-pZ,AS.cO _ QB.symm,AS.cO _ ye.symm,AS.bG]);have j3:s0.dD o3=some (b.map cU):=(by rw[<-pZ,AS.cO _ Xa.symm,AS.bG]);have j4:s0.dD o4=some (List.replicate 16 (bV 0)):=(by rw[<-pZ];exact AS.bG _ _ _);have hle:s.le s0:=(by rw[<-pZ];exact AS.dW (AS.dW (AS.dW (AS.le.refl s) tj _) FT _) A5 _);clear pZ FR IC;have yo:(List.replicate 16 (bV 0)).length=16:=(by simp);generalize List.replicate 16 (bV 0)=Z at *
 refine jQ fun K hK=>?_;refine b6 (hbx _) ?_;rintro r s1 ⟨rfl,rfl⟩;simp only[↓DM,eZ,DX,Nz,↓DN,Qa,Qb,Qc,Qd,Qe,Qf,Qg,Qh,reduceCtorEq,↓reduceIte,Na,Nb,Nc,Nk,Nf,Ng,Nh,Za,Zb,Zc,TT,xaC,wY,xd2,Nat.le_refl,List.length_replicate];intro o5 Cj;rw[fj (List.replicate 256 (bV 0)) Y (by rw[wY];simp)];refine hK _ _ ?_;clear hK K;have n52:o5≠o2:=(fun e=>by rw[e,j2] at Cj;cases Cj);have n53:o5≠o3:=(fun e=>by rw[e,j3] at Cj;cases Cj);have n54:o5≠o4:=(fun e=>by rw[e,j4] at Cj;cases Cj);have Jd:s.dD o5=none:=by
  cases h:s.dD o5 with
  |none=>rfl
  |some cs=>rw[hle.dD _ _ h] at Cj;cases Cj
 generalize lA:s1.set o5 Y=s2 at *
 have q2:s2.dD o2=some (key.map cU):=(by rw[<-lA,AS.cO _ n52.symm];exact j2);have q3:s2.dD o3=some (b.map cU):=(by rw[<-lA,AS.cO _ n53.symm];exact j3);have q4:s2.dD o4=some Z:=(by rw[<-lA,AS.cO _ n54.symm];exact j4);have q5:s2.dD o5=some Y:=(by rw[<-lA];exact AS.bG _ _ _);have iL:s.le s2:=(by rw[<-lA];exact AS.dW hle Jd _);clear lA j2 j3 j4 hle Cj;refine jS (Ai @q2 (Ai @q5 (Ai @sD (Ai @N7 (Ai @wY (Ai @xaG @Nat.le_refl)))))) fun K hK=>?_;refine b6 (hex _) ?_;rintro r s3 ⟨rfl,rfl⟩;simp only[↓DM,eZ,DX,Nz,↓DN,Qa,Qb,Qc,Qd,Qe,Qf,Qg,Qh,reduceCtorEq,↓reduceIte,Na,Nb,Nc,Nk,Nf,Ng,Nh,Za,Zb,Zc,TT,z167,UO,xd3,Nat.le_refl,List.length_replicate];intro o6 Q8;rw[fj (List.replicate 176 (bV 0)) KS (by rw[UO];simp)];refine hK _ _ ?_;clear hK K;have n63:o6≠o3:=(fun e=>by rw[e,q3] at Q8;cases Q8);have n64:o6≠o4:=(fun e=>by rw[e,q4] at Q8;cases Q8);have n65:o6≠o5:=(fun e=>by rw[e,q5] at Q8;cases Q8);have hs6:s.dD o6=none:=by
  cases h:s.dD o6 with
  |none=>rfl
  |some cs=>rw[iL.dD _ _ h] at Q8;cases Q8
 generalize lA:s3.set o6 KS=s4 at *
 have t3:s4.dD o3=some (b.map cU):=(by rw[<-lA,AS.cO _ n63.symm];exact q3);have t4:s4.dD o4=some Z:=(by rw[<-lA,AS.cO _ n64.symm];exact q4);have t5:s4.dD o5=some Y:=(by rw[<-lA,AS.cO _ n65.symm];exact q5);have t6:s4.dD o6=some KS:=(by rw[<-lA];exact AS.bG _ _ _);have ie:s.le s4:=(by rw[<-lA];exact AS.dW iL hs6 _);clear lA q2 q3 q4 q5 iL Q8;have hB0:=gy (Aes.state key b 0);have xaH:((Aes.state key b 0).map cU).length=16:=(by rw[List.length_map,Aes.oV]);refine wS fun K hK=>?_;simp only[↓DN,Qa,Qb,Qc,Qd,Qe,Qf,Qg,Qh,reduceCtorEq,↓reduceIte,Na,Nb,Nc,Nk,Nf,Ng,Nh,Za,Zb,Zc,TT,t3,t6,HW,xhJ,UO,VF,show(0:Int)<((11:Nat):Int) from by decide];refine b6 (had _) ?_;rintro r s5 ⟨rfl,rfl⟩;refine jN (Ai @hB0 (Ai @xaH @Nat.le_refl)) ?_;intro o7 DD;rw[XL,fj (List.replicate 16 (bV 0)) ((Aes.state key b 0).map cU) (by rw[xaH];simp)];refine hK _ _ ?_;clear hK K;have n74:o7≠o4:=(fun e=>by rw[e,t4] at DD;cases DD);have n75:o7≠o5:=(fun e=>by rw[e,t5] at DD;cases DD);have n76:o7≠o6:=(fun e=>by rw[e,t6] at DD;cases DD);have XQ:s.dD o7=none:=by
  cases h:s.dD o7 with
  |none=>rfl
  |some cs=>rw[ie.dD _ _ h] at DD;cases DD
 generalize lA:s5.set o7 ((Aes.state key b 0).map cU)=s6 at *
 have j4:s6.dD o4=some Z:=(by rw[<-lA,AS.cO _ n74.symm];exact t4);have j5:s6.dD o5=some Y:=(by rw[<-lA,AS.cO _ n75.symm];exact t5);have j6:s6.dD o6=some KS:=(by rw[<-lA,AS.cO _ n76.symm];exact t6);have j7:s6.dD o7=some ((Aes.state key b 0).map cU):=(by rw[<-lA];exact AS.bG _ _ _);have mY:s.le s6:=(by rw[<-lA];exact AS.dW ie XQ _);clear lA t3 t4 t5 t6 ie DD hB0 xaH;refine wK fun K hK=>?_;refine jA ?_;refine dH ?_;refine dU (fun E s2=>∃q:Nat,q<=10∧E 4=.ptr o4 0∧E 5=.ptr o5 0∧E 6=.ptr o6 0∧E 7=.ptr o7 0∧E 8=.v (.int .i64 ((q+1:Nat):Int))∧s2.dD o4=some Z∧s2.dD o5=some Y∧s2.dD o6=some KS∧s2.dD o7=some ((Aes.state key b q).map cU)∧s.le s2)
  (fun E _=>match E 8 with |.v (.int _ i)=>11-i.toNat|_=>0) ?_ ?_
 ·exact⟨0,by omega,rfl,rfl,rfl,rfl,rfl,j4,j5,j6,j7,mY⟩
 ·clear j4 j5 j6 j7 mY;rintro E1 s7 ⟨q,hq,e4,e5,e6,e7,e8,j4,j5,j6,j7,hle⟩ -
  refine wK fun K2 eH=>?_;by_cases LW:q<10
  ·refine jB (Ai @e8 (decide_eq_true (show((q+1:Nat):Int)<=10 by omega))) ?_;refine jE ?_;refine dX ?_;refine eH _ _ ?_;clear eH K2;refine wK fun K3 eX=>?_;refine dH ?_;have heq:(((q+1:Nat):Int)==10)=(q+1==10):=by
    by_cases h:q+1=10
    ·rw[h];rfl
    ·rw[show(q+1==10)=false by simpa using h];simp;omega
   have xhK:=U8 q;have xhL:=XI q;have hKq:=xd4 (q+1) (by omega);have hKd:16<=(List.drop ((q+1)*16) KS).length:=(by rw[List.length_drop,UO];omega);have To:((Aes.state key b q).map cU).length=16:=(by rw[List.length_map,Aes.oV]);have xd6:List.take 16 ((Aes.state key b q).map cU)=(Aes.state key b q).map cU:=List.take_of_length_le (by omega);have hNl:((Aes.state key b (q+1)).map cU).length=16:=(by rw[List.length_map,Aes.oV]);have xd7:=gy (Aes.state key b (q+1));generalize hN:(Aes.state key b (q+1)).map cU=NB at *
   generalize (Aes.state key b q).map cU=SB at *
   generalize (Aes.kr key (q+1)).map cU=KQ at *
   have m0:(0:Int)<=((q+1:Nat):Int):=(by omega);have m1:((q+1:Nat):Int)<((11:Nat):Int):=(by omega);refine gl T.mixed [(o7,SB),(o5,Y),(o6,KS)] [4,8] [0,1,7] [9] (by kernel_rfl) (by simp only[dZ,ec,and_true];simp[AS.set,dY,j5,j6,j7]) ?_;intro K hK;simp only[↓eN,↓eD,gY,gS,eg,ej,dZ,ec,List.any_cons,List.any_nil,List.contains_cons,List.contains_nil,Nat.reduceBEq,Bool.or_false,Bool.or_true,Bool.or_self,Bool.false_or,↓DN,Qa,Qb,Qc,Qd,Qe,Qf,Qg,Qh,reduceCtorEq,↓reduceIte,Na,Nb,Nc,Nk,Nf,Ng,Nh,Za,Zb,Zc,TT,e5,e6,e7,e8,heq,j5,j6,j7,m0,m1,wY,xaG,UO,hKq,hKd,To,xd6,n75,n75.symm,n76,n76.symm,n65,n65.symm,Nat.le_refl];refine b6 (xhK _) ?_;rintro r sa ⟨rfl,rfl⟩;simp only[↓fM,↓fi,eZ,↓eN,↓eD,gY,gS,eg,ej,dZ,ec,List.any_cons,List.any_nil,DX,Nat.reduceBEq,↓DN,Qa,Qb,Qc,Qd,Qe,Qf,Qg,Qh,reduceCtorEq,↓reduceIte,Na,Nb,Nc,Nk,Nf,Ng,Nh,Za,Zb,Zc,TT,e5,e6,e7,e8,heq,j5,j6,j7,m0,m1,wY,xaG,UO,hKq,hKd,To,xd6,n75,n75.symm,n76,n76.symm,n65,n65.symm,Nat.le_refl];refine b6 (xhL _) ?_;rintro r sb ⟨rfl,rfl⟩;simp only[↓fM,↓fi,eZ,↓eN,↓eD,gY,gS,eg,ej,dZ,ec,List.any_cons,List.any_nil,DX,Nat.reduceBEq,↓DN,Qa,Qb,Qc,Qd,Qe,Qf,Qg,Qh,reduceCtorEq,↓reduceIte,Na,Nb,Nc,Nk,Nf,Ng,Nh,Za,Zb,Zc,TT,e7,j7,To,hNl,xd7,Nat.le_refl];refine⟨⟨j5,j6⟩,?_⟩;rw[fj SB NB (by omega)];refine hK _ _ ?_;clear hK K;simp only[dn,dJ,if_true,if_false];refine eX _ _ ?_;clear eX K3;refine jD (Ai @e8 (fy (q+1) (by omega))) ?_;refine⟨⟨q+1,by omega,e4,e5,e6,e7,rfl,by rw[AS.cO _ n74.symm];exact j4,by rw[AS.cO _ n75.symm];exact j5,by rw[AS.cO _ n76.symm];exact j6,by rw[hN];exact AS.bG _ _ _,AS.dW hle XQ _⟩,?_⟩;simp only[e8,dY,↓reduceIte];omega
  ·obtain rfl:q=10:=(by omega);refine jB (Ai @e8 (decide_eq_false (show ¬((10+1:Nat):Int)<=10 by decide))) ?_;refine jF ?_;refine ep ?_;simp only[dJ,dn,if_true];clear eH K2;refine hK _ _ ?_;clear hK K;rw[show Aes.state key b 10=Aes.block key b from rfl] at j7;have AB:((Aes.block key b).map cU).length=16:=(by rw[List.length_map,Aes.vZ]);have fG:=gy (Aes.block key b);have ir:List.take 16 ((Aes.block key b).map cU)=(Aes.block key b).map cU:=List.take_of_length_le (by omega);generalize (Aes.block key b).map cU=X at *
   refine jS (Ai @e4 (Ai @e7 (Ai @j4 (Ai @j7 (Ai @AB (Ai @ir (Ai @fG (Ai @n74 (Ai @n74.symm @Nat.le_refl))))))))) fun K hK=>?_;rw[fj Z X (by omega)];refine⟨by omega,hK _ _ ?_⟩;clear hK K;refine eF ?_;refine kJ (v:=.agg X) (o:=o4) (off:=0) e4 (AS.bG _ _ _) (by rw[T.VC];decide) (by simp only[↓DN,Qa,Qb,Qc,Qd,Qe,Qf,Qg,Qh,reduceCtorEq,↓reduceIte,Na,Nb,Nc,Nk,Nf,Ng,Nh,Za,Zb,Zc,TT,AB,ir]) ?_;exact⟨_,s,AV.dV.refl _,AS.dW hle A5 _,rfl,rfl⟩
abbrev nV(n:Nat):AV:=.v (.int .i64 (n:Int))
theorem YB(b i:Nat)(hi:i<64):kE .i64 (b:Int) (i:Int)=((b/2^i:Nat):Int):=by
 rw[nq];simp only[aA];rw[cL oM]
theorem YC(a i:Nat)(hi:i<64)(h:a*2^i<2^62):oo .i64 (a:Int) (i:Int)=((a*2^i:Nat):Int):=by
 rw[oo];simp only[Int.toNat_natCast,aA];rw[cL oM];have e:(a:Int)*2^i=((a*2^i:Nat):Int):=(by rw[Int.natCast_mul,Int.natCast_pow];rfl);rw[e,b8 _ oM]
theorem Lu(a b:Nat)(ha:a<2^62)(hb:b<2^62):BX .i64 (a:Int) (b:Int)=((a ^^^ b:Nat):Int):=by
 have hx:a ^^^ b<2^62:=cM ha hb;rw[BX,BitVec.ofInt_natCast,BitVec.ofInt_natCast,BitVec.toNat_xor,cA,cA];simp only[aA];rw[aN oM,aN oM,b8 _ oM]
theorem Xe(a:Nat):mG (a:Int) 2=((a%2:Nat):Int):=mI a 2
theorem IZ:¬(2:Int)=0:=dM
theorem QP(a i:Nat)(ha:a<256)(hi:i<8):a*2^i<2^15:=by
 have h1:2^i<=2^7:=bw dM oM;have h2:a*2^i<=255*2^7:=Nat.mul_le_mul oM h1;omega
theorem N8(k:Nat)(hk:k<7):283*2^k<2^15:=by
 have h1:2^k<=2^6:=bw dM oM;have h2:283*2^k<=283*2^6:=Nat.mul_le_mul_left _ h1;omega
theorem EO(a:Nat):a%2=1∨a%2=0:=oM
theorem rD(a b:Nat)(ha:a<256)(hb:b<256)(s:AS):aI prog Γ 238 [nV a,nV b] s (nV (Aes.F0 a b)):=by
 refine xH func238 ntmps238 results238 ?_;refine UL fun K hK=>?_;refine dU (fun E s1=>∃i p:Nat,i<=8∧E 0=nV a∧E 1=nV b∧E 5=nV p∧E 6=nV i∧p<2^15∧Aes.mulL a b (8-i) p=Aes.mulL a b 8 0∧s1=s)
  (fun E _=>match E 6 with |.v (.int _ i)=>8-i.toNat|_=>0) ?_ ?_
 ·exact⟨0,0,oM,by simp only[dY,eV,Nc,↓reduceIte];rfl,by simp only[dY,eV,Nc,↓reduceIte];rfl,rfl,rfl,dM,rfl,rfl⟩
 ·rintro E1 s1 ⟨i,p,hi,e0,e1,e5,e6,hp,hinv,rfl⟩ -
  refine wK fun K2 eH=>?_;by_cases et:i<8
  ·refine jB (Ai @e6 (dT (show(i:Int)<8 by omega))) ?_;refine ue ?_;refine eH _ _ ?_;clear eH K2;refine nF fun K3 eX=>?_;have gN:Aes.mulL a b (8-i) p=Aes.mulL a b (8-(i+1)) (if b/2^i%2=1 then p ^^^ (a*2^i) else p):=by
    rw[show 8-i=(8-(i+1))+1 by omega,Aes.mulL,show 7-(8-(i+1))=i by omega]
   have hmb:=QP a i ha et;have qW:∀(E2:Env)(p2:Nat),E2 0=nV a->E2 1=nV b->E2 5=nV p2->E2 6=nV i->p2<2^15->Aes.mulL a b (8-(i+1)) p2=Aes.mulL a b 8 0->K3 E2 s1:=by
    intro E2 p2 f0 f1 f5 f6 Dt sP;refine eX _ _ ?_;clear eX K3;refine jD (Ai @f6 (fy i oM)) ?_;refine⟨⟨i+1,p2,oM,f0,f1,f5,rfl,Dt,sP,rfl⟩,?_⟩;simp only[e6,dY,↓reduceIte];omega
   clear eX;have LZ:=YB b i oM;rcases EO (b/2^i) with vw|vx
   ·rw[if_pos vw] at gN;refine jB (Ai @e1 (Ai @e6 (Ai @iU (Ai @LZ (Ai @Xe (Ai @IZ (Ai @vw @IW))))))) ?_;refine jE<|jD (Ai @e0 (Ai @e5 (Ai @e6 (Ai @iU (Ai (YC a i oM oM) (Lu p (a*2^i) oM oM)))))) ?_;simp only[dn,dJ,if_true,if_false];exact qW _ (p ^^^ (a*2^i)) e0 e1 rfl e6 (cM hp hmb) (by rw[<-gN];exact hinv)
   ·rw[if_neg oM] at gN;refine jB (Ai @e1 (Ai @e6 (Ai @iU (Ai @LZ (Ai @Xe (Ai @IZ (Ai @vx @Be))))))) ?_;refine gW ?_;simp only[dn,dJ,if_true,if_false];exact qW _ p e0 e1 e5 e6 hp (by rw[<-gN];exact hinv)
  ·obtain rfl:i=8:=oM;refine jB (Ai @e6 (dF (show ¬((8:Nat):Int)<8 by decide))) ?_;refine sI ?_;simp only[dJ,dn,if_true];refine hK _ _ ?_;clear hK eH K K2;have hp0:p=Aes.mulL a b 8 0:=hinv;refine Jc fun K hK=>?_;refine dU (fun E s2=>∃k p2:Nat,k<=7∧E 5=nV p2∧E 7=nV (7+k)∧p2<2^15∧Aes.IJ k p2=Aes.IJ 7 p∧s2=s1)
    (fun E _=>match E 7 with |.v (.int _ i)=>i.toNat|_=>0) ?_ ?_
   ·exact⟨7,p,oM,e5,rfl,hp,rfl,rfl⟩
   ·clear e0 e1 e5 e6;rintro E2 s2 ⟨k,p2,hk,f5,f7,Dt,sP,rfl⟩ -
    refine wK fun K2 eH=>?_;by_cases sC:k=0
    ·subst sC;refine jB (Ai @f7 (dF (show ¬(8:Int)<=((7+0:Nat):Int) by decide))) ?_;refine sI ?_;simp only[dJ,dn,if_true];refine hK _ _ ?_;clear hK eH K K2;refine jB @f5 ?_;refine jI ?_;refine jW ⟨?_,rfl⟩;have :p2=Aes.IJ 7 p:=sP;rw[this,hp0];rfl
    ·obtain⟨m,rfl⟩:∃m,k=m+1:=⟨k-1,oM⟩;refine jB (Ai @f7 (dT (show(8:Int)<=((7+(m+1):Nat):Int) by omega))) ?_;refine ue ?_;refine eH _ _<|nF fun K3 eX=>?_;have gN:Aes.IJ (m+1) p2=Aes.IJ m (if p2/2^(8+m)%2=1 then p2 ^^^ (283*2^m) else p2):=rfl;have hpb:=N8 m oM;have h78:7+(m+1)=8+m:=oM;have xd8:gR .i64 ((8+m:Nat):Int) 1=((7+m:Nat):Int):=by
      have:=ju (8+m) 1 oM oM;rw[show 8+m-1=7+m by omega] at this;exact this
     have xd9:gR .i64 ((8+m:Nat):Int) 8=((m:Nat):Int):=by
      have:=ju (8+m) 8 oM oM;rw[show 8+m-8=m by omega] at this;exact this
     have xhM:oo .i64 283 ((m:Nat):Int)=((283*2^m:Nat):Int):=YC 283 m oM oM;rw[h78] at f7;have qW:∀(E3:Env)(p3:Nat),E3 5=nV p3->E3 7=nV (8+m)->p3<2^15->Aes.IJ m p3=Aes.IJ 7 p->K3 E3 s2:=by
      intro E3 p3 g5 g7 hp3 xea;refine eX _ _ ?_;clear eX K3;refine jD (Ai @g7 @xd8) ?_;refine⟨⟨m,p3,oM,g5,rfl,hp3,xea,rfl⟩,?_⟩;simp only[f7,dY,↓reduceIte];omega
     clear eX;have LZ:=YB p2 (8+m) oM;rcases EO (p2/2^(8+m)) with vw|vx
     ·rw[if_pos vw] at gN;refine jB (Ai @f5 (Ai @f7 (Ai @iU (Ai @LZ (Ai @Xe (Ai @IZ (Ai @vw @IW))))))) ?_;refine jE<|jD (Ai @f5 (Ai @f7 (Ai @iU (Ai @xd9 (Ai @xhM (Lu p2 (283*2^m) oM oM)))))) ?_;simp only[dn,dJ,if_true,if_false];exact qW _ (p2 ^^^ (283*2^m)) rfl f7 (cM Dt hpb) (by rw[<-gN];exact sP)
     ·rw[if_neg oM] at gN;refine jB (Ai @f5 (Ai @f7 (Ai @iU (Ai @LZ (Ai @Xe (Ai @IZ (Ai @vx @Be))))))) ?_;refine gW ?_;simp only[dn,dJ,if_true,if_false];exact qW _ p2 f5 f7 Dt (by rw[<-gN];exact sP)
def uF(v:Nat):Nat->Nat
 |0=>v
 |k+1=>Aes.wx (uF v k)
def yI(v:Nat):Nat->Nat
 |0=>99 ^^^ v
 |k+1=>yI v k ^^^ uF v (k+1)
theorem O4(v:Nat):Aes.wx v<256:=Nat.mod_lt _ dM
theorem Lv(v:Nat)(h:v<256):∀k,uF v k<256
 |0=>h
 |k+1=>O4 _
theorem YD(v:Nat)(h:v<256):∀k,yI v k<256
 |0=>cM (n:=8) dM h
 |k+1=>cM (n:=8) (YD v h k) (Lv v h (k+1))
theorem QQ(v:Nat)(h:v<256):mG (iY .i64 (mF .i64 (v:Int) 2) (nn .i64 (v:Int) 128)) 256=((Aes.wx v:Nat):Int):=by
 have h1:mF .i64 (v:Int) 2=((v*2:Nat):Int):=(by rw[iv oM];omega);have h2:nn .i64 (v:Int) 128=((v/128:Nat):Int):=by
  have :nn .i64 (v:Int) ((128:Nat):Int)=((v/128:Nat):Int):=by
   rw[nn];have e:Int.tdiv (v:Int) ((128:Nat):Int)=((v/128:Nat):Int):=(Int.ofNat_tdiv v 128).symm;rw[e,b8 _ oM]
  exact this
 rw[h1,h2,gw _ _ oM];exact mI (v*2+v/128) 256
theorem Lw:∀n,(Aes.uQ n).length=256
 |0=>List.length_replicate
 |n+1=>by rw[Aes.uQ,bR,Lw n]
theorem Lx:∀n,(Aes.zQ n).length=256
 |0=>List.length_replicate
 |n+1=>by rw[Aes.zQ,bR,Lx n]
theorem UA(i:Nat):((Aes.uQ i).map fun n=>nV n).set i (nV (Aes.xp i))=(Aes.uQ (i+1)).map fun n=>nV n:=by
 rw[<-List.map_set,Aes.uQ]
theorem UB(i:Nat):((Aes.zQ i).map fun n=>nV n).set (Aes.xp i) (nV i)=(Aes.zQ (i+1)).map fun n=>nV n:=by
 rw[<-List.map_set,Aes.zQ]
theorem O5{l:List Nat}(j:Nat)(h:j<l.length):aO j (l.map fun n=>nV n)=nV (l.getD j 0)::aO (j+1) (l.map fun n=>nV n):=by
 apply drop_cons;simp[af h]
theorem Xf:∀j,j<256->Aes.tU.getD j 0<256:=by decide+kernel
theorem Ly:Aes.tU.length=256:=by decide+kernel
theorem LA:Aes.Bb.length=256:=by decide+kernel
def fb(l:List UInt8):List AV:=l.map fun x=>nV x.toNat
theorem kq(l:List UInt8):(fb l).length=l.length:=by simp[fb]
theorem ks{l:List UInt8}(j:Nat)(h:j<l.length):aO j (fb l)=nV (l.getD j 0).toNat::aO (j+1) (fb l):=by
 apply drop_cons;simp[fb,af h]
def ig(F G:Nat->UInt8)(N i:Nat):List AV:=(aq N).map fun n=>nV (if n<i then F n else G n).toNat
theorem sX(F G:Nat->UInt8)(N i:Nat):(ig F G N i).length=N:=by simp[ig]
theorem wk(F G:Nat->UInt8)(N i:Nat)(x:Nat)(hx:x=(F i).toNat):(ig F G N i).set i (nV x)=ig F G N (i+1):=by
 subst hx;apply bg;intro k;by_cases e:k=i
 ·subst e;by_cases hk:k<N
  ·rw[List.getElem?_set_self (by rw[sX];exact hk)];simp[ig,hk]
  ·rw[aR (by simp[ig];omega),aR (by simp[ig];omega)]
 ·rw[List.getElem?_set_ne oM];by_cases hk:k<N
  ·simp only[ig,aH,List.getElem?_range hk,cd];by_cases h2:k<i
   ·rw[if_pos h2,if_pos oM]
   ·rw[if_neg h2,if_neg oM]
  ·rw[aR (by simp[ig];omega),aR (by simp[ig];omega)]
theorem tW(F G:Nat->UInt8)(N:Nat):ig F G N N=fb ((aq N).map F):=by
 rw[ig,fb,List.map_map];apply bu;intro n hn;rw[if_pos (List.mem_range.1 hn)];rfl
theorem tX(F:Nat->UInt8)(N:Nat):ig F (fun _=>0) N 0=ah N (nV 0):=by
 apply List.ext_getElem
 ·simp[ig]
 ·intro k h1 h2;simp[ig]
theorem DC(s:AS):dS prog Γ 204 [] s (fun r s'=>r=.sl 1 256 (fb Aes.sb) .no∧s'=s):=by
 refine rT func204 rfl ntmps204 results204 (by simp) ?_;refine fo ?_;intro K1 iW;refine jC ?_;simp only[dJ];refine iW _ _ ?_;clear iW K1;refine fo ?_;intro K1 iW;refine jT fun K hK=>?_;refine⟨by decide,by decide,fun o1 yp=>?_⟩;refine hK _ _ ?_;clear hK K;simp only[dJ];refine iW _ _ ?_;clear iW K1;refine fo ?_;intro K1 iW;refine jT fun K hK=>?_;refine⟨by decide,by decide,fun o2 tj=>?_⟩;refine hK _ _ ?_;clear hK K;simp only[dJ];refine iW _ _ ?_;clear iW K1;obtain⟨OQ,Uv⟩:=AS.km tj;refine fo ?_;intro K1 iW;refine jC ?_;simp only[dJ];refine iW _ _ ?_;clear iW K1;rw[show List.replicate 256 (AV.v (.int .i64 0))=(Aes.uQ 0).map fun n=>nV n from by rw[Aes.uQ,List.map_replicate];rfl];generalize pZ:(s.set o1 ((Aes.uQ 0).map fun n=>nV n)).set o2 ((Aes.uQ 0).map fun n=>nV n)=s0 at *
 have j1:s0.dD o1=some ((Aes.uQ 0).map fun n=>nV n):=(by rw[<-pZ,AS.cO _ OQ.symm,AS.bG]);have j2:s0.dD o2=some ((Aes.zQ 0).map fun n=>nV n):=(by rw[<-pZ];exact AS.bG _ _ _);have hle:s.le s0:=(by rw[<-pZ];exact AS.dW (AS.dW (AS.le.refl s) yp _) Uv _);clear pZ tj;refine fo ?_;intro K1 iW;refine jA ?_;refine dH ?_;refine dU (fun E s1=>∃i:Nat,i<=255∧E 1=.jd o1 0 1 256 256∧E 2=.jd o2 0 1 256 256∧E 3=nV (Aes.xp i)∧E 4=nV i∧s1.dD o1=some ((Aes.uQ i).map fun n=>nV n)∧s1.dD o2=some ((Aes.zQ i).map fun n=>nV n)∧s.le s1)
  (fun E _=>match E 4 with |.v (.int _ i)=>255-i.toNat|_=>0) ?_ ?_
 ·exact⟨0,by omega,rfl,rfl,rfl,rfl,j1,j2,hle⟩
 ·clear j1 j2 hle;rintro E1 s1 ⟨i,hi,e1,e2,e3,e4,j1,j2,hle⟩ -
  refine wK fun K2 eH=>?_;by_cases et:i<255
  ·refine jB (Ai @e4 (decide_eq_true (show(i:Int)<255 by omega))) ?_;refine jE ?_;refine dX ?_;refine eH _ _ ?_;clear eH K2;refine wK fun K3 eX=>?_;refine dH ?_;have hx:=Aes.Yr i;have xeb:=UA i;have xec:=UB i;have QU:((Aes.uQ i).map fun n=>nV n).length=256:=(by rw[List.length_map,Lw]);have CM:((Aes.zQ i).map fun n=>nV n).length=256:=(by rw[List.length_map,Lx]);have hmul:=fun s=>rD (Γ:=Γ) (Aes.xp i) 3 hx (by decide) s;rw[show Aes.F0 (Aes.xp i) 3=Aes.xp (i+1) from rfl] at hmul;generalize hA':((Aes.uQ (i+1)).map fun n=>nV n)=A' at *
   generalize hB':((Aes.zQ (i+1)).map fun n=>nV n)=B' at *
   generalize ((Aes.uQ i).map fun n=>nV n)=A at *
   generalize ((Aes.zQ i).map fun n=>nV n)=B at *
   generalize hxn:Aes.xp (i+1)=xn at *
   generalize Aes.xp i=x at *
   have m0:(0:Int)<=(i:Int):=(by omega);have m1:(i:Int)<((256:Nat):Int):=(by omega);have m2:(0:Int)<=(x:Int):=(by omega);have m3:(x:Int)<((256:Nat):Int):=(by omega);have m4:i<256:=(by omega);refine wS fun K hK=>?_;simp only[↓DN,Qa,Qb,Qc,Qd,Qe,Qf,Qg,Qh,reduceCtorEq,↓reduceIte,Na,Nb,Nc,Nk,Nf,Ng,Nh,Za,Zb,Zc,TT,e1,e3,e4,j1,m0,m1,m4,xeb,QU];refine⟨by omega,hK _ _ ?_⟩;clear hK K;generalize oq:s1.set o1 A'=s2 at *
   have q1:s2.dD o1=some A':=(by rw[<-oq];exact AS.bG _ _ _);have q2:s2.dD o2=some B:=(by rw[<-oq,AS.cO _ OQ];exact j2);have iL:s.le s2:=(by rw[<-oq];exact AS.dW hle yp _);clear oq j1 j2 hle;have m5:x+1<=256:=(by omega);refine wS fun K hK=>?_;simp only[↓DN,Qa,Qb,Qc,Qd,Qe,Qf,Qg,Qh,reduceCtorEq,↓reduceIte,Na,Nb,Nc,Nk,Nf,Ng,Nh,Za,Zb,Zc,TT,e2,e3,e4,q2,m2,m3,m5,hx,xec,CM];refine hK _ _ ?_;clear hK K;refine jU @e3 fun K hK=>?_;refine b6 (hmul _) ?_;rintro r s3 ⟨rfl,rfl⟩;refine jR hK ?_;clear hK K;simp only[dn,dJ,if_true,if_false];refine eX _ _ ?_;clear eX K3;refine jD (Ai @e4 (fy i (by omega))) ?_;refine⟨⟨i+1,by omega,e1,e2,by simp only[dY,Nc,↓reduceIte];rw[hxn],rfl,by rw[AS.cO _ OQ.symm,hA'];exact q1,by rw[hB'];exact AS.bG _ _ _,AS.dW iL Uv _⟩,?_⟩;simp only[e4,dY,↓reduceIte];omega
  ·obtain rfl:i=255:=(by omega);refine jB (Ai @e4 (decide_eq_false (show ¬((255:Nat):Int)<255 by decide))) ?_;refine jF ?_;refine ep ?_;simp only[dJ,dn,if_true];clear eH K2;refine iW _ _ ?_;clear iW K1;rw[Aes.xdh] at j1;rw[Aes.xdi] at j2;clear e3 e4;refine fo ?_;intro K1 iW;refine jT fun K hK=>?_;refine⟨by decide,by decide,fun o5 Cj=>?_⟩;refine hK _ _ ?_;clear hK K;simp only[dJ];refine iW _ _ ?_;clear iW K1;have n51:o5≠o1:=(fun e=>by rw[e,j1] at Cj;cases Cj);have n52:o5≠o2:=(fun e=>by rw[e,j2] at Cj;cases Cj);have Jd:s.dD o5=none:=by
    cases h:s.dD o5 with
    |none=>rfl
    |some cs=>rw[hle.dD _ _ h] at Cj;cases Cj
   rw[show List.replicate 256 (AV.v (.int .i64 0))=List.replicate 256 (nV 0) from rfl,<-tX (fun n=>Aes.sb.getD n 0) 256];generalize oq:s1.set o5 (ig (fun n=>Aes.sb.getD n 0) (fun _=>0) 256 0)=s2 at *
   have q1:s2.dD o1=some (Aes.tU.map fun n=>nV n):=(by rw[<-oq,AS.cO _ n51.symm];exact j1);have q2:s2.dD o2=some (Aes.Bb.map fun n=>nV n):=(by rw[<-oq,AS.cO _ n52.symm];exact j2);have q5:s2.dD o5=some (ig (fun n=>Aes.sb.getD n 0) (fun _=>0) 256 0):=(by rw[<-oq];exact AS.bG _ _ _);have iL:s.le s2:=(by rw[<-oq];exact AS.dW hle Jd _);clear oq j1 j2 hle Cj;refine fo ?_;intro K1 iW;refine jA ?_;refine dH ?_;refine dU (fun E s3=>∃c:Nat,c<=256∧E 1=.jd o1 0 1 256 256∧E 2=.jd o2 0 1 256 256∧E 5=.jd o5 0 1 256 256∧E 6=nV c∧s3.dD o1=some (Aes.tU.map fun n=>nV n)∧s3.dD o2=some (Aes.Bb.map fun n=>nV n)∧s3.dD o5=some (ig (fun n=>Aes.sb.getD n 0) (fun _=>0) 256 c)∧s.le s3)
    (fun E _=>match E 6 with |.v (.int _ i)=>256-i.toNat|_=>0) ?_ ?_
   ·exact⟨0,by omega,e1,e2,rfl,rfl,q1,q2,q5,iL⟩
   ·clear q1 q2 q5 iL e1 e2;rintro E2 s3 ⟨c,hc,f1,f2,f5,f6,q1,q2,q5,iL⟩ -
    refine wK fun K2 eH=>?_;by_cases EY:c<256
    ·refine jB (Ai @f6 (decide_eq_true (show(c:Int)<256 by omega))) ?_;refine jE ?_;refine dX ?_;refine eH _ _ ?_;clear eH K2;refine wK fun K3 eX=>?_;refine dH ?_;refine jA ?_;refine wK fun K4 jm=>?_;have eU:=Aes.WQ c EY;have qW:∀(E3:Env)(v:Nat),v<256->Aes.WO Aes.tU Aes.Bb c=yI v 4->E3 1=.jd o1 0 1 256 256->E3 2=.jd o2 0 1 256 256->E3 5=.jd o5 0 1 256 256->E3 6=nV c->E3 7=nV v->K4 E3 s3:=by
      intro E3 v hv hov g1 g2 g5 g6 g7;refine jm _ _ ?_;clear jm K4;have h99:BX .i64 (99:Int) (v:Int)=((99 ^^^ v:Nat):Int):=Lu 99 v (by omega) (by omega);refine jB (Ai @g7 @h99) ?_;refine wK fun K5 mE=>?_;refine jA ?_;refine dH ?_;refine dU (fun E s4=>∃k:Nat,k<=4∧E 1=.jd o1 0 1 256 256∧E 2=.jd o2 0 1 256 256∧E 5=.jd o5 0 1 256 256∧E 6=nV c∧E 7=nV (uF v k)∧E 8=nV (yI v k)∧E 9=nV k∧s4=s3)
       (fun E _=>match E 9 with |.v (.int _ i)=>4-i.toNat|_=>0) ?_ ?_
      ·exact⟨0,by omega,g1,g2,g5,g6,by simp only[dY,g7,Nc,↓reduceIte];rfl,rfl,rfl,rfl⟩
      ·clear g1 g2 g5 g6 g7;rintro E4 s4 ⟨k,hk,g1,g2,g5,g6,g7,g8,g9,rfl⟩ -
       refine wK fun K6 ll=>?_;by_cases sC:k<4
       ·refine jB (Ai @g9 (decide_eq_true (show(k:Int)<4 by omega))) ?_;refine jE ?_;refine dX ?_;refine ll _ _ ?_;clear ll K6;refine wK fun K7 v7=>?_;refine dH ?_;have hsv:=Lv v hv k;have hyv:=YD v hv k;have hsw:=QQ (uF v k) hsv;have oq:=O4 (uF v k);have LY:uF v (k+1)=Aes.wx (uF v k):=rfl;have hy3:yI v (k+1)=yI v k ^^^ Aes.wx (uF v k):=rfl;have sY:=Lu (yI v k) (Aes.wx (uF v k)) (by omega) (by omega);rw[<-LY] at hsw oq sY hy3;rw[<-hy3] at sY;generalize QV:uF v (k+1)=sn at *
        generalize hyn:yI v (k+1)=yn at *
        generalize uF v k=sk at *
        generalize yI v k=yk at *
        refine jB (Ai @g7 (Ai @hsw (Ai (show ¬((128:Int)=0) from by decide) (show ¬((256:Int)=0) from by decide)))) ?_;refine jD (Ai @g8 @sY) ?_;simp only[dn,dJ,if_true,if_false];refine v7 _ _ ?_;clear v7 K7;refine jD (Ai @g9 (fy k (by omega))) ?_;refine⟨⟨k+1,by omega,g1,g2,g5,g6,by simp only[dY,Nc,↓reduceIte];rw[QV],by simp only[dY,Nc,↓reduceIte];rw[hyn],rfl,rfl⟩,?_⟩;simp only[g9,dY,↓reduceIte];omega
       ·obtain rfl:k=4:=(by omega);refine jB (Ai @g9 (decide_eq_false (show ¬((4:Nat):Int)<4 by decide))) ?_;refine jF ?_;refine ep ?_;simp only[dJ,dn,if_true];clear ll K6;refine mE _ _ ?_;clear mE K5;rw[<-hov,eU] at g8;have fO:=wk (fun n=>Aes.sb.getD n 0) (fun _=>0) 256 c _ rfl;have hlen:=sX (fun n=>Aes.sb.getD n 0) (fun _=>0) 256 c;generalize DG:ig (fun n=>Aes.sb.getD n 0) (fun _=>0) 256 (c+1)=R' at *
        generalize ig (fun n=>Aes.sb.getD n 0) (fun _=>0) 256 c=R at *
        generalize (Aes.sb.getD c 0).toNat=y at *
        have m0:(0:Int)<=(c:Int):=(by omega);have m1:(c:Int)<((256:Nat):Int):=(by omega);have m2:c+1<=256:=(by omega);refine wE fun K hK=>?_;simp only[↓DN,Qa,Qb,Qc,Qd,Qe,Qf,Qg,Qh,reduceCtorEq,↓reduceIte,Na,Nb,Nc,Nk,Nf,Ng,Nh,Za,Zb,Zc,TT,g5,g6,g8,m0,m1,m2,EY,q5,fO,hlen];refine hK _ _ ?_;clear hK K;simp only[dn,dJ,if_true,if_false];refine eX _ _ ?_;clear eX K3;refine jD (Ai @g6 (fy c (by omega))) ?_;refine⟨⟨c+1,by omega,g1,g2,g5,rfl,by rw[AS.cO _ n51.symm];exact q1,by rw[AS.cO _ n52.symm];exact q2,by rw[DG];exact AS.bG _ _ _,AS.dW iL Jd _⟩,?_⟩;simp only[f6,dY,↓reduceIte];omega
     clear eX;by_cases F7:c=0
     ·subst F7;refine jB (Ai @f6 (decide_eq_false (show ¬(0:Int)<((0:Nat):Int) by decide))) ?_;refine jF ?_;refine dX ?_;exact qW _ 0 (by decide) rfl f1 f2 f5 f6 rfl
     ·have hg:=Aes.xag c EY;have RP:=O5 (l:=Aes.Bb) c (by rw[LA];exact EY);have hov:Aes.WO Aes.tU Aes.Bb c=yI (Aes.tU.getD ((255-Aes.Bb.getD c 0)%255) 0) 4:=by
       unfold Aes.WO;rw[if_pos (by omega)];rfl
      generalize Aes.Bb.getD c 0=g at *
      have PJ:=O5 (l:=Aes.tU) ((255-g)%255) (by rw[Ly];omega);have hv:=Xf ((255-g)%255) (by omega);have tM:gR .i64 255 ((g:Nat):Int)=((255-g:Nat):Int):=ju 255 g (by omega) (by omega);have xhO:mG ((255-g:Nat):Int) 255=(((255-g)%255:Nat):Int):=mI (255-g) 255;generalize hm:(255-g)%255=m at *
      have hm2:m<255:=(by omega);generalize Aes.tU.getD m 0=v at *
      have QU:(Aes.tU.map fun n=>nV n).length=256:=(by rw[List.length_map,Ly]);have CM:(Aes.Bb.map fun n=>nV n).length=256:=(by rw[List.length_map,LA]);generalize hA:(Aes.tU.map fun n=>nV n)=A at *
      generalize hB:(Aes.Bb.map fun n=>nV n)=B at *
      have m0:(0:Int)<=(c:Int):=(by omega);have m1:(c:Int)<((256:Nat):Int):=(by omega);have m2:(0:Int)<=(m:Int):=(by omega);have m3:(m:Int)<((256:Nat):Int):=(by omega);have m4:m<256:=(by omega);refine jB (Ai @f6 (decide_eq_true (show(0:Int)<(c:Int) by omega))) ?_;refine jE ?_;refine wE fun K hK=>?_;simp only[↓DN,Qa,Qb,Qc,Qd,Qe,Qf,Qg,Qh,reduceCtorEq,↓reduceIte,Na,Nb,Nc,Nk,Nf,Ng,Nh,Za,Zb,Zc,TT,f1,f2,f6,m0,m1,m2,m3,m4,EY,q1,q2,RP,PJ,tM,xhO,QU,CM,show ¬((255:Int)=0) from by decide];refine hK _ _ ?_;clear hK K;exact qW _ v hv hov f1 f2 f5 f6 rfl
    ·obtain rfl:c=256:=(by omega);refine jB (Ai @f6 (decide_eq_false (show ¬((256:Nat):Int)<256 by decide))) ?_;refine jF ?_;refine ep ?_;simp only[dJ,dn,if_true];clear eH K2;refine iW _ _ ?_;clear iW K1;rw[tW,show(List.range 256).map (fun n=>Aes.sb.getD n 0)=Aes.sb from Ls] at q5;have hl5:(fb Aes.sb).length=256:=(by rw[kq,Aes.oU]);refine vS (kx.freeze (d:=5) (o:=o5) (off:=0) (sz:=1) (n:=256) (cap:=256) (by simp only[dY,Nc,↓reduceIte];exact f5) q5 (by omega)) (fY.g ?_);have mi:s.le (s3.drop o5):=AS.th iL Jd;generalize s3.drop o5=s4 at *
     rw[show((fb Aes.sb).drop 0).take (256*1)=fb Aes.sb from by rw[List.drop_zero,List.take_of_length_le (by omega)]];generalize fb Aes.sb=X at *
     refine jA ?_;refine jI ?_;exact⟨_,s,AV.dV.refl _,mi,rfl,rfl⟩
def N9(s:AS)(cs:List AV)(r:AV)(s':AS):Prop:=
 s.le s'∧((cs=[]∧r=.v (.slice none 0 0))∨∃t e,s.own t=none∧s'.own t=some e∧r=.sl 1 cs.length cs (.own t e))
theorem N9.nil(s:AS):N9 s [] (.v (.slice none 0 0)) s:=⟨AS.le.refl s,.inl ⟨rfl,rfl⟩⟩
theorem I0{P:Program}{e:TypeId}{K:AV->AS->Prop}{s s1:AS}{cs:List AV}{x:AV}{r:AV}(h:N9 s cs r s1)(h1:x.one=true)(he:P.cellsOf e=1)(hb:P.bytesOf e=8)(hlen:cs.length<=2^40)
  (hk:∀r2 s2,N9 s (cs++[x]) r2 s2->K r2 s2):lB P e r 1 [x] s1 K:=by
 rcases h.2 with⟨rfl,rfl⟩|⟨t,g,k1,k2,rfl⟩
 ·rw[vb,if_neg dM,he,hb];refine⟨oM,oM,fun t ht=>hk _ _ ?_⟩;refine⟨AS.eE h.1 ?_ 0,.inr ⟨t,0,?_,AS.iR _ _ _,sM⟩⟩;all_goals
   cases hs:s.own t with
   |none=>rfl
   |some g=>rw[h.1.own t g hs] at ht;cases ht
 ·rw[vd,if_neg dM,he,hb];refine⟨rfl,oM,oM,by simp[h1],k2,hk _ _ ?_⟩;exact⟨AS.eE h.1 k1 _,.inr ⟨t,g+1,k1,AS.iR _ _ _,sM⟩⟩
theorem ui(l:List UInt8)(hl:l.length<=1000)(s:AS):
  dS prog Γ 206 [.v (.string ⟨l.toArray⟩)] s (fun r s'=>N9 s (fb l) r s'):=by
 refine xH func206 ntmps206 results206 ?_;refine UL fun K hK=>?_;refine dU (fun E s1=>∃i:Nat,i<=l.length∧E 0=.v (.string ⟨l.toArray⟩)∧E 4=nV i∧N9 s (fb (l.take i)) (E 3) s1)
  (fun E _=>match E 4 with |.v (.int _ i)=>l.length-i.toNat|_=>0) ?_ ?_
 ·exact⟨0,oM,by simp only[dY,eV,Nc,↓reduceIte];rfl,rfl,by simp only[dY,Nc,↓reduceIte,List.take_zero];exact N9.nil s⟩
 ·rintro E1 s1 ⟨i,hi,e0,e4,eU⟩ -
  refine wK fun K2 eH=>?_;by_cases et:i<l.length
  ·refine jB (Ai @e0 (Ai @e4 (Ai @gK (dT (show(i:Int)<(l.length:Int) by omega))))) ?_;refine ue ?_;refine eH _ _<|nF fun K3 eX=>?_;have hx:(cu l.toArray)[i]? =some (l.getD i 0):=(by rw[Mx l i et];simp[af et]);have ir:fb (l.take (i+1))=fb (l.take i)++[nV (l.getD i 0).toNat]:=by
    rw[ad et,fb,aD,show l.getD i 0=l[i] by simp[af et]];rfl
   have mQ:(fb (l.take i)).length<=2^40:=(by rw[kq,aU];omega);generalize l.getD i 0=x at *
   generalize hA':fb (l.take (i+1))=A' at *
   generalize fb (l.take i)=A at *
   have m0:(0:Int)<=(i:Int):=oM;have YP:gq .i64 (x.toNat:Int)=(x.toNat:Int):=JO (by have:=x.toNat_lt;omega);refine wE fun K hK=>?_;simp only[↓DN,Qa,Qb,Qc,Qd,Qe,Qf,Qg,Qh,seval,TT,e0,e4,m0,hx,cU,YP,List.replicate_one];refine I0 eU rfl T.c3 T.b3 mQ ?_;intro r2 s2 BC;refine hK _ _ ?_;clear hK K;simp only[dn,dJ,if_true,if_false];refine eX _ _<|jD (Ai @e4 (fy i oM)) ?_;refine⟨⟨i+1,oM,e0,rfl,?_⟩,?_⟩
   ·simp only[dY,Nc,↓reduceIte];rw[hA',ir];exact BC
   ·simp only[e4,dY,↓reduceIte];omega
  ·obtain rfl:i=l.length:=oM;refine jB (Ai @e0 (Ai @e4 (Ai @gK (dF (show ¬(l.length:Int)<(l.length:Int) by omega))))) ?_;refine sI ?_;simp only[dJ,dn,if_true];refine hK _ _ ?_;rw[List.take_length] at eU;refine wq ?_;exact⟨_,_,AV.dV.refl _,AS.le.refl _,eU⟩
def kc(key:List UInt8)(i k:Nat):UInt8:=
 if i%4=0 then(if k=0 then Aes.S (Aes.ak key (4*i-4+1)) ^^^ Aes.GY (i/4-1) else Aes.S (Aes.ak key (4*i-4+(k+1)%4)))
 else Aes.ak key (4*i-4+k)
theorem Xg(key:List UInt8)(hk:key.length=16)(i k:Nat)(h4:4<=i)(QX:k<4):Aes.ak key (4*i-16+k) ^^^ kc key i k=Aes.ak key (4*i+k):=by
 obtain⟨r,m,rfl,hm⟩:∃r m,i=4*(r+1)+m∧m<4:=⟨i/4-1,i%4,oM,oM⟩;by_cases h0:m=0
 ·subst h0;have hl:=Aes.T4 hk r k QX;unfold kc;rw[if_pos oM];rw[show 4*(4*(r+1)+0)-16+k=16*r+k by omega,show 4*(4*(r+1)+0)+k=16*(r+1)+k by omega,hl];by_cases VF:k=0
  ·subst VF;rw[if_pos rfl,if_pos rfl,show 4*(4*(r+1)+0)-4+1=16*r+(12+(0+1)%4) by omega,show(4*(r+1)+0)/4-1=r by omega,UInt8.xor_assoc]
  ·rw[if_neg VF,if_neg VF,show 4*(4*(r+1)+0)-4+(k+1)%4=16*r+(12+(k+1)%4) by omega]
 ·have hl:=Aes.OX hk r (4*m+k) oM oM;unfold kc;rw[if_neg oM,show 4*(4*(r+1)+m)-16+k=16*r+(4*m+k) by omega,show 4*(4*(r+1)+m)+k=16*(r+1)+(4*m+k) by omega,hl,
   show 4*(4*(r+1)+m)-4+k=16*(r+1)+(4*m+k-4) by omega]
theorem vL(key:List UInt8)(n:Nat)(h:n<176):(fJ key).getD n 0=Aes.ak key n:=Aes.qF _ _ _ _ h
theorem EP(key:List UInt8)(n:Nat)(h:n<176):fb ((fJ key).take (n+1))=fb ((fJ key).take n)++[nV (Aes.ak key n).toNat]:=by
 have hl:n<(fJ key).length:=(by rw[iX];exact h);have e:=vL key n h;rw[aQ,af hl] at e;simp only[bo] at e;rw[ad hl,e,fb,aD];rfl
theorem Oa(key:List UInt8)(hk:key.length=16):(fJ key).take 16=key:=by
 apply List.ext_getElem
 ·simp[iX,hk]
 ·intro n h1 h2;have hn:n<16:=oM;rw[List.getElem_take];have e:=vL key n oM;rw[Aes.T5 n hn] at e;simpa[aQ,af h2,af (show n<(fJ key).length by rw[iX];omega)] using e
theorem QR(key:List UInt8)(i:Nat)(h4:4<=i)(hi:i<44):aO (4*i-4) (aP (4*i) (fb ((fJ key).take (4*i))))=[nV (Aes.ak key (4*i-4+0)).toNat,nV (Aes.ak key (4*i-4+1)).toNat,nV (Aes.ak key (4*i-4+2)).toNat,nV (Aes.ak key (4*i-4+3)).toNat]:=by
 have hl:(fb ((fJ key).take (4*i))).length=4*i:=(by rw[kq,aU,iX];omega);rw[List.take_of_length_le oM];apply bg;intro n;rw[List.getElem?_drop];by_cases hn:n<4
 ·have e:(fb ((fJ key).take (4*i)))[4*i-4+n]? =some (nV (Aes.ak key (4*i-4+n)).toNat):=by
   have h1:4*i-4+n<(fJ key).length:=(by rw[iX];omega);have e:=vL key (4*i-4+n) oM;rw[aQ,af h1] at e;simp only[bo] at e;rw[fb,aH,List.getElem?_take,if_pos oM,af h1,cd,e]
  rw[e];rcases(show n=0∨n=1∨n=2∨n=3 by omega) with rfl|rfl|rfl|rfl<;>rfl
 ·rw[aR oM,aR (by simp;omega)]
theorem LB(x:UInt8):Aes.F0 x.toNat 2=(Aes.OS x).toNat:=by
 have:=Aes.xdk x.toNat x.toNat_lt;rwa [UInt8.ofNat_toNat] at this
theorem ER(a b:UInt8):BX .i64 (a.toNat:Int) (b.toNat:Int)=((a ^^^ b).toNat:Int):=by
 have ha:=a.toNat_lt;have hb:=b.toNat_lt;rw[Lu _ _ oM oM,UInt8.toNat_xor]
theorem Fq(key:List UInt8)(hk:key.length=16)(s:AS):
  dS prog Γ 205 [.sl 1 16 (fb key) .any,.sl 1 256 (fb Aes.sb) .any] s (fun r s'=>r=.sl 1 176 (fb (fJ key)) .any∧s'=s):=by
 refine fm func205 rfl ntmps205 results205 (by simp) ?_;have sD:(fb key).length=16:=(by rw[kq,hk]);have UC:(fb key).all AV.one=true:=(by rw[List.all_eq_true];intro x hx;obtain⟨n,_,rfl⟩:=List.mem_map.1 hx;rfl);have N7:List.take 16 (fb key)=fb key:=List.take_of_length_le (by omega);have AE:fb ((fJ key).take (4*4))=fb key:=(by rw[show 4*4=16 from rfl,Oa key hk]);rw[<-AE];rw[<-AE] at sD UC N7;generalize hW0:fb ((fJ key).take (4*4))=W0 at *
 refine jA ?_;refine jS (Ai @sD (Ai @UC @N7)) fun K hK=>?_;intro t ht;refine hK _ _ ?_;clear hK K;have WC:s.le (s.eT t 0):=AS.eE (AS.le.refl s) ht 0;have YE:(s.eT t 0).own t=some 0:=AS.iR _ _ _;generalize s.eT t 0=s0 at *
 refine jA ?_;refine wK fun K hK=>?_;refine jA ?_;refine dH ?_;rw[<-hW0];clear hW0 sD UC N7 AE W0;refine dU (fun E s1=>∃i g:Nat,4<=i∧i<=44∧E 1=.sl 1 256 (fb Aes.sb) .any∧E 5=.sl 1 (4*i) (fb ((fJ key).take (4*i))) (.own t g)∧E 6=nV (Aes.GY ((i+3)/4-1)).toNat∧E 7=nV i∧s1.own t=some g∧s.le s1)
  (fun E _=>match E 7 with |.v (.int _ i)=>44-i.toNat|_=>0) ?_ ?_
 ·exact⟨4,0,by omega,by omega,by simp only[dY,eV,Nc,↓reduceIte];rfl,rfl,rfl,rfl,YE,WC⟩
 ·clear YE WC;rintro E1 s1 ⟨i,g,h4,hi,e1,e5,e6,e7,Ll,hle⟩ -
  refine wK fun K2 eH=>?_;by_cases et:i<44
  ·refine jB (Ai @e7 (decide_eq_true (show(i:Int)<44 by omega))) ?_;refine jE ?_;refine dX ?_;refine eH _ _ ?_;clear eH K2;refine wK fun K3 eX=>?_;refine dH ?_;have Lm:=QR key i h4 et;have Kd:(fb ((fJ key).take (4*i))).length=4*i:=(by rw[kq,List.length_take,iX];omega);generalize hW:fb ((fJ key).take (4*i))=W at *
   have a1:=qH i (by omega);have a2:gR .i64 ((4*i:Nat):Int) 4=((4*i-4:Nat):Int):=ju (4*i) 4 (by omega) (by omega);have m0:(0:Int)<=((4*i-4:Nat):Int):=(by omega);have m1:((4*i-4:Nat):Int)<=((4*i:Nat):Int):=(by omega);have m2:((4*i:Nat):Int)<=((4*i:Nat):Int):=(by omega);have m3:¬(((4*i-4:Nat):Int)=0):=(by omega);have m4:4*i-(4*i-4)=4:=(by omega);refine wS fun K hK=>?_;simp only[↓DN,Qa,Qb,Qc,Qd,Qe,Qf,Qg,Qh,reduceCtorEq,↓reduceIte,Na,Nb,Nc,Nk,Nf,Ng,Nh,Za,Zb,Zc,TT,e5,e7,a1,a2,m0,m1,m2,m3,m4,Lm];intro t8 ht8;refine hK _ _ ?_;clear hK K;have n8:t≠t8:=(fun e=>by rw[e,ht8] at Ll;cases Ll);have hs8:s.own t8=none:=by
    cases h:s.own t8 with
    |none=>rfl
    |some cs=>rw[hle.own _ _ h] at ht8;cases ht8
   have EB:(s1.eT t8 0).own t=some g:=(by rw[AS.Bo];simp only[dY,if_neg n8];exact Ll);have iL:s.le (s1.eT t8 0):=AS.eE hle hs8 0;generalize s1.eT t8 0=s2 at *
   clear Ll hle ht8;refine wK fun K4 jm=>?_;have qW:∀(E2:Env)(sp:Sp),E2 1=.sl 1 256 (fb Aes.sb) .any->E2 5=.sl 1 (4*i) W (.own t g)->E2 6=nV (Aes.GY ((i+1+3)/4-1)).toNat->E2 7=nV i->
     E2 8=.sl 1 4 [nV (kc key i 0).toNat,nV (kc key i 1).toNat,nV (kc key i 2).toNat,nV (kc key i 3).toNat] sp->K4 E2 s2:=by
    intro E2 sp f1 f5 f6 f7 f8;refine jm _ _ ?_;clear jm K4;refine jA ?_;refine dH ?_;rw[<-hW] at f5;clear Lm Kd hW m4;refine dU (fun E s3=>∃k h:Nat,k<=4∧E 1=.sl 1 256 (fb Aes.sb) .any∧E 5=.sl 1 (4*i+k) (fb ((fJ key).take (4*i+k))) (.own t h)∧E 6=nV (Aes.GY ((i+1+3)/4-1)).toNat∧E 7=nV i∧E 8=.sl 1 4 [nV (kc key i 0).toNat,nV (kc key i 1).toNat,nV (kc key i 2).toNat,nV (kc key i 3).toNat] sp∧E 9=nV k∧s3.own t=some h∧s.le s3)
     (fun E _=>match E 9 with |.v (.int _ i)=>4-i.toNat|_=>0) ?_ ?_
    ·exact⟨0,g,by omega,f1,by simp only[dY,f5,Nc,↓reduceIte];rfl,f6,f7,f8,rfl,EB,iL⟩
    ·clear EB iL f1 f5 f6 f7 f8;rintro E3 s3 ⟨k,h,sC,f1,f5,f6,f7,f8,f9,EB,iL⟩ -
     refine wK fun K6 ll=>?_;by_cases QX:k<4
     ·refine jB (Ai @f9 (decide_eq_true (show(k:Int)<4 by omega))) ?_;refine jE ?_;refine dX ?_;refine ll _ _ ?_;clear ll K6;refine wK fun K7 v7=>?_;refine dH ?_;have hak:=Xg key hk i k h4 QX;have uB:=EP key (4*i+k) (by omega);have b2:gR .i64 ((4*i:Nat):Int) 16=((4*i-16:Nat):Int):=ju (4*i) 16 (by omega) (by omega);have b3:=gw (4*i-16) k (by omega);have xlC:(fb ((fJ key).take (4*i+k))).length=4*i+k:=(by rw[kq,List.length_take,iX];omega);have hgl:4*i-16+k<((fJ key).take (4*i+k)).length:=(by rw[List.length_take,iX];omega);have hdw:=ks (l:=(fJ key).take (4*i+k)) (4*i-16+k) hgl;have RV:((fJ key).take (4*i+k)).getD (4*i-16+k) 0=Aes.ak key (4*i-16+k):=by
       rw[<-vL key (4*i-16+k) (by omega),List.getD_eq_getElem?_getD,List.getD_eq_getElem?_getD,List.getElem?_take,if_pos (by omega)]
      rw[RV] at hdw;have hdc:List.drop k [nV (kc key i 0).toNat,nV (kc key i 1).toNat,nV (kc key i 2).toNat,nV (kc key i 3).toNat]=nV (kc key i k).toNat::List.drop (k+1) [nV (kc key i 0).toNat,nV (kc key i 1).toNat,nV (kc key i 2).toNat,nV (kc key i 3).toNat]:=by
       rcases(show k=0∨k=1∨k=2∨k=3 by omega) with rfl|rfl|rfl|rfl<;>rfl
      have pL:(fb ((fJ key).take (4*i+k))).all AV.one=true:=(by rw[List.all_eq_true];intro x hx;obtain⟨n,_,rfl⟩:=List.mem_map.1 hx;rfl);generalize hD:[nV (kc key i 0).toNat,nV (kc key i 1).toNat,nV (kc key i 2).toNat,nV (kc key i 3).toNat]=D at *
      rw[<-hak] at uB;generalize hV':fb ((fJ key).take (4*i+k+1))=V' at *
      generalize hV:fb ((fJ key).take (4*i+k))=V at *
      generalize Aes.ak key (4*i-16+k)=x at *
      generalize kc key i k=y at *
      have l0:(0:Int)<=((4*i-16+k:Nat):Int):=(by omega);have l1:((4*i-16+k:Nat):Int)<((4*i+k:Nat):Int):=(by omega);have l2:(0:Int)<=(k:Int):=(by omega);have l3:(k:Int)<((4:Nat):Int):=(by omega);have l4:(4*i+k+1)*8<=2^46:=(by omega);have l5:4*i+k+1<=2^46:=(by omega);refine iw T.mixed [15] (by kernel_rfl) ?_;intro K hK;simp only[↓DM,eZ,DX,Nz,↓DN,Qa,Qb,Qc,Qd,Qe,Qf,Qg,Qh,reduceCtorEq,↓reduceIte,Na,Nb,Nc,Nk,Nf,Ng,Nh,Za,Zb,Zc,TT,f5,f7,f8,f9,a1,b2,b3,l0,l1,l2,l3,hdw,hdc,ER,List.replicate_one];refine⟨by omega,by omega,EB,hK _ _ ?_⟩;clear hK K;rw[<-uB];simp only[dn,dJ,if_true,if_false];refine v7 _ _ ?_;clear v7 K7;refine jD (Ai @f9 (fy k (by omega))) ?_;refine⟨⟨k+1,h+1,by omega,f1,by simp only[dY,Nc,↓reduceIte];rw[<-hV'];rfl,f6,f7,f8,rfl,AS.iR _ _ _,AS.eE iL ht _⟩,?_⟩;simp only[f9,dY,↓reduceIte];omega
     ·obtain rfl:k=4:=(by omega);refine jB (Ai @f9 (decide_eq_false (show ¬((4:Nat):Int)<4 by decide))) ?_;refine jF ?_;refine ep ?_;simp only[dJ,dn,if_true,if_false];clear ll K6;refine eX _ _ ?_;clear eX K3;refine jD (Ai @f7 (fy i (by omega))) ?_;refine⟨⟨i+1,h,by omega,by omega,f1,by simp only[dY,f5,Nc,↓reduceIte];rfl,f6,rfl,EB,iL⟩,?_⟩;simp only[e7,dY,↓reduceIte];omega
   clear eX jm Kd Lm;have r4:=QL i;by_cases hm:i%4=0
   ·have h0:kc key i 0=Aes.S (Aes.ak key (4*i-4+1)) ^^^ Aes.GY (i/4-1):=(by unfold kc;rw[if_pos hm,if_pos rfl]);have h1:kc key i 1=Aes.S (Aes.ak key (4*i-4+2)):=(by unfold kc;rw[if_pos hm,if_neg (by decide)]);have h2:kc key i 2=Aes.S (Aes.ak key (4*i-4+3)):=(by unfold kc;rw[if_pos hm,if_neg (by decide)]);have h3:kc key i 3=Aes.S (Aes.ak key (4*i-4)):=(by unfold kc;rw[if_pos hm,if_neg (by decide)];rfl);have hp:(i+3)/4-1=i/4-1:=(by omega);have Dt:(i+1+3)/4-1=i/4-1+1:=(by omega);rw[hp] at e6;rw[Dt,h0,h1,h2,h3] at qW;have hpw:Aes.GY (i/4-1+1)=Aes.OS (Aes.GY (i/4-1)):=rfl;rw[hpw] at qW;clear h0 h1 h2 h3 hpw;generalize Aes.GY (i/4-1)=pw at *
    generalize Aes.ak key (4*i-4)=x0 at *
    generalize Aes.ak key (4*i-4+1)=x1 at *
    generalize Aes.ak key (4*i-4+2)=x2 at *
    generalize Aes.ak key (4*i-4+3)=x3 at *
    have d0:=ks (l:=Aes.sb) x0.toNat (by rw[Aes.oU];have:=x0.toNat_lt;omega);rw[QO] at d0;have u0:(0:Int)<=((x0.toNat:Nat):Int):=(by omega);have w0:((x0.toNat:Nat):Int)<((256:Nat):Int):=(by have:=x0.toNat_lt;omega);have d1:=ks (l:=Aes.sb) x1.toNat (by rw[Aes.oU];have:=x1.toNat_lt;omega);rw[QO] at d1;have u1:(0:Int)<=((x1.toNat:Nat):Int):=(by omega);have w1:((x1.toNat:Nat):Int)<((256:Nat):Int):=(by have:=x1.toNat_lt;omega);have d2:=ks (l:=Aes.sb) x2.toNat (by rw[Aes.oU];have:=x2.toNat_lt;omega);rw[QO] at d2;have u2:(0:Int)<=((x2.toNat:Nat):Int):=(by omega);have w2:((x2.toNat:Nat):Int)<((256:Nat):Int):=(by have:=x2.toNat_lt;omega);have d3:=ks (l:=Aes.sb) x3.toNat (by rw[Aes.oU];have:=x3.toNat_lt;omega);rw[QO] at d3;have u3:(0:Int)<=((x3.toNat:Nat):Int):=(by omega);have w3:((x3.toNat:Nat):Int)<((256:Nat):Int):=(by have:=x3.toNat_lt;omega);have WD:∀x:AV,List.replicate 4 x=[x,x,x,x]:=fun _=>rfl;rw[hm] at r4;refine jB (Ai @e7 (Ai @r4 (Ai @qy (show(((0:Nat):Int)==0)=true from rfl)))) ?_;refine jE ?_;generalize hY:fb Aes.sb=Y at *
    refine eB T.mixed [] (by kernel_rfl) ?_;intro K hK;refine jV (Ai @e1 (Ai @e6 (Ai @d0 (Ai @d1 (Ai @d2 (Ai @d3 (Ai @u0 (Ai @u1 (Ai @u2 (Ai @u3 (Ai @w0 (Ai @w1 (Ai @w2 (Ai @w3 (Ai @ER (Ai @WD (Ai (show(0:Int)<((4:Nat):Int) from by decide) (Ai (show(1:Int)<((4:Nat):Int) from by decide) (Ai (show(2:Int)<((4:Nat):Int) from by decide) (show(3:Int)<((4:Nat):Int) from by decide)))))))))))))))))))) hK ?_;clear hK K;refine jU @e6 fun K hK=>?_;refine b6 (rD pw.toNat 2 pw.toNat_lt (by decide) _) ?_;rintro r s3 ⟨rfl,rfl⟩;rw[LB];refine jR hK ?_;clear hK K;simp only[dn,dJ,if_true,if_false];exact qW _ .new e1 e5 rfl e7 rfl
   ·have h0:kc key i 0=Aes.ak key (4*i-4):=(by unfold kc;rw[if_neg hm];rfl);have h1:kc key i 1=Aes.ak key (4*i-4+1):=(by unfold kc;rw[if_neg hm]);have h2:kc key i 2=Aes.ak key (4*i-4+2):=(by unfold kc;rw[if_neg hm]);have h3:kc key i 3=Aes.ak key (4*i-4+3):=(by unfold kc;rw[if_neg hm]);have hp:(i+1+3)/4-1=(i+3)/4-1:=(by omega);rw[hp,h0,h1,h2,h3] at qW;have hmz:((((i%4:Nat):Int))==0)=false:=(by simp;omega);refine jB (Ai @e7 (Ai @r4 (Ai @qy @hmz))) ?_;refine jF ?_;refine dX ?_;exact qW _ (.own t8 0) e1 e5 e6 e7 rfl
  ·obtain rfl:i=44:=(by omega);refine jB (Ai @e7 (decide_eq_false (show ¬((44:Nat):Int)<44 by decide))) ?_;refine jF ?_;refine ep ?_;simp only[dJ,dn,if_true];clear eH K2;refine hK _ _ ?_;clear hK K;rw[show 4*44=176 from rfl,List.take_of_length_le (by rw[iX];omega)] at e5;generalize fb (fJ key)=X at *
   refine jB @e5 ?_;refine jI ?_;exact⟨_,s,AV.fc,hle,rfl,rfl⟩
def Xh(b:List UInt8):List UInt8:=(aq 16).map (Aes.sh b)
theorem XP:∀x:AV,ah 4 x=[x,x,x,x]:=fun _=>rfl
theorem xaI(i:Nat)(h:i<1000):mF .i64 16 (i:Int)=((16*i:Nat):Int):=by
 rw[iv oM];omega
theorem Hb(key:List UInt8)(n:Nat)(h:n<176):aO n (fb (fJ key))=nV (Aes.ak key n).toNat::aO (n+1) (fb (fJ key)):=by
 have:=ks (l:=fJ key) n (by rw[iX];exact h);rwa [vL key n h] at this
def mm(x:UInt8)(j:Nat):UInt8:=if j=0 then Aes.OS x else if j=1 then Aes.OS x ^^^ x else x
def mN(j:Nat):Nat:=if j=0 then 2 else if j=1 then 3 else 1
theorem xed(j:Nat):mN j<256:=by unfold mN;split;decide;split <;>decide
theorem xaJ(x:UInt8)(j:Nat):Aes.F0 x.toNat (mN j)=(mm x j).toNat:=by
 have hx:=x.toNat_lt;unfold mN mm;split
 ·exact LB x
 ·split
  ·have:=Aes.xdl x.toNat hx;rwa [UInt8.ofNat_toNat] at this
  ·exact Aes.xdj x.toNat hx
theorem Xi(j:Nat)(h:j<4):aO j [nV 2,nV 3,nV 1,nV 1]=nV (mN j)::aO (j+1) [nV 2,nV 3,nV 1,nV 1]:=by
 rcases(show j=0∨j=1∨j=2∨j=3 by omega) with rfl|rfl|rfl|rfl<;>rfl
def acc(c:Nat->UInt8)(row:Nat):Nat->UInt8
 |0=>0
 |k+1=>acc c row k ^^^ mm (c k) ((k+4-row)%4)
theorem xaK(c:Nat->UInt8)(row:Nat)(h:row<4):acc c row 4=Aes.mx c row:=by
 rcases(show row=0∨row=1∨row=2∨row=3 by omega) with rfl|rfl|rfl|rfl;all_goals
  simp[acc,mm,Aes.mx];try ac_rfl
theorem UD(k row:Nat)(hk:k<4)(hr:row<4):mG (iY .i64 (gR .i64 (k:Int) (row:Int)) 4) 4=(((k+4-row)%4:Nat):Int):=by
 rw[fD oM,kh oM,show(k:Int)-(row:Int)+4=((k+4-row:Nat):Int) by omega];exact mI (k+4-row) 4
theorem QS(key b:List UInt8)(n:Nat)(h:n<16):b.getD n 0 ^^^ Aes.ak key n=(Aes.state key b 0).getD n 0:=by
 rw[Aes.state,Aes.add_get _ _ _ h,Aes.ak,Nat.div_eq_of_lt h,aN h]
theorem Ob(key b:List UInt8)(q n:Nat)(h:n<16):qz (Aes.state key b q) (q+1==10) n ^^^ Aes.ak key (16*(q+1)+n)=(Aes.state key b (q+1)).getD n 0:=by
 rw[Aes.state,Aes.add_get _ _ _ h,qz,Aes.ak,show(16*(q+1)+n)/16=q+1 by omega,show(16*(q+1)+n)%16=n by omega]
theorem vM(key b:List UInt8)(q:Nat):(aq 16).map (fun n=>(Aes.state key b q).getD n 0)=Aes.state key b q:=oO (Aes.oV key b q)
theorem Oc(key b:List UInt8)(q:Nat)(F:Nat->UInt8):ig F (fun n=>(Aes.state key b q).getD n 0) 16 0=fb (Aes.state key b q):=by
 conv=>rhs;rw[<-vM key b q]
 rw[ig,fb,List.map_map];apply bu;intro n hn;rw[if_neg oM];rfl
theorem DA(key b:List UInt8)(hk:key.length=16)(hb:b.length=16)(s:AS):
  dS prog Γ 207 [.sl 1 176 (fb (fJ key)) .any,.sl 1 256 (fb Aes.sb) .any,.sl 1 16 (fb b) .any] s (fun r s'=>r=.sl 1 16 (fb (Aes.block key b)) .no∧s'=s):=by
 refine rT func207 rfl ntmps207 results207 (by simp) ?_;refine fo ?_;intro K1 iW;refine jC ?_;simp only[dJ];refine iW _ _ ?_;clear iW K1;refine fo ?_;intro K1 iW;refine jT fun K hK=>?_;refine⟨by decide,by decide,fun o7 DD=>?_⟩;refine hK _ _ ?_;clear hK K;simp only[dJ];refine iW _ _ ?_;clear iW K1;rw[show List.replicate 16 (AV.v (.int .i64 0))=List.replicate 16 (nV 0) from rfl,<-tX (fun n=>(Aes.state key b 0).getD n 0) 16];generalize lA:s.set o7 (ig (fun n=>(Aes.state key b 0).getD n 0) (fun _=>0) 16 0)=s1 at *
 have j7:s1.dD o7=some (ig (fun n=>(Aes.state key b 0).getD n 0) (fun _=>0) 16 0):=(by rw[<-lA];exact AS.bG _ _ _);have hle:s.le s1:=(by rw[<-lA];exact AS.dW (AS.le.refl s) DD _);clear lA;refine fo ?_;intro K1 iW;refine jA ?_;refine dH ?_;refine dU (fun E s2=>∃i:Nat,i<=16∧E 0=.sl 1 176 (fb (fJ key)) .any∧E 1=.sl 1 256 (fb Aes.sb) .any∧E 2=.sl 1 16 (fb b) .any∧E 7=.jd o7 0 1 16 16∧E 8=nV i∧s2.dD o7=some (ig (fun n=>(Aes.state key b 0).getD n 0) (fun _=>0) 16 i)∧s.le s2)
  (fun E _=>match E 8 with |.v (.int _ i)=>16-i.toNat|_=>0) ?_ ?_
 ·exact⟨0,by omega,by simp only[dY,eV,Nc,↓reduceIte];rfl,by simp only[dY,eV,Nc,↓reduceIte];rfl,by simp only[dY,eV,Nc,↓reduceIte];rfl,rfl,rfl,j7,hle⟩
 ·clear j7 hle;rintro E1 s2 ⟨i,hi,e0,e1,e2,e7,e8,j7,hle⟩ -
  refine wK fun K2 eH=>?_;by_cases et:i<16
  ·refine jB (Ai @e8 (decide_eq_true (show(i:Int)<16 by omega))) ?_;refine jE ?_;refine dX ?_;refine eH _ _ ?_;clear eH K2;refine wK fun K3 eX=>?_;refine dH ?_;have np:=QS key b i et;have fO:=wk (fun n=>(Aes.state key b 0).getD n 0) (fun _=>0) 16 i _ (by rw[<-np]);have hlen:=sX (fun n=>(Aes.state key b 0).getD n 0) (fun _=>0) 16 i;have db:=ks (l:=b) i (by omega);have dk:=Hb key i (by omega);generalize DG:ig (fun n=>(Aes.state key b 0).getD n 0) (fun _=>0) 16 (i+1)=R' at *
   generalize ig (fun n=>(Aes.state key b 0).getD n 0) (fun _=>0) 16 i=R at *
   generalize b.getD i 0=x at *
   generalize Aes.ak key i=y at *
   generalize hKS:fb (fJ key)=KS at *
   generalize hBB:fb b=BB at *
   have m0:(0:Int)<=(i:Int):=(by omega);have m1:(i:Int)<((16:Nat):Int):=(by omega);have m2:(i:Int)<((176:Nat):Int):=(by omega);have m3:i+1<=16:=(by omega);refine gl T.mixed [(o7,R)] [] [] [12] (by kernel_rfl) (by simp only[dZ,ec,and_true];simp[AS.set,dY,j7]) ?_;intro K hK;simp only[↓eN,↓eD,gY,gS,eg,ej,dZ,ec,List.any_cons,List.any_nil,List.contains_cons,List.contains_nil,Nat.reduceBEq,Bool.or_false,Bool.or_true,Bool.or_self,Bool.false_or,↓DN,Qa,Qb,Qc,Qd,Qe,Qf,Qg,Qh,reduceCtorEq,↓reduceIte,Na,Nb,Nc,Nk,Nf,Ng,Nh,Za,Zb,Zc,TT,e0,e2,e7,e8,m0,m1,m2,m3,et,j7,db,dk,ER,fO,hlen];first
    |refine hK _ _ ?_
    |refine⟨by omega,hK _ _ ?_⟩
   clear hK K;simp only[dn,dJ,if_true,if_false];refine eX _ _ ?_;clear eX K3;refine jD (Ai @e8 (fy i (by omega))) ?_;refine⟨⟨i+1,by omega,e0,e1,e2,e7,rfl,by rw[DG];exact AS.bG _ _ _,AS.dW hle DD _⟩,?_⟩;simp only[e8,dY,↓reduceIte];omega
  ·obtain rfl:i=16:=(by omega);refine jB (Ai @e8 (decide_eq_false (show ¬((16:Nat):Int)<16 by decide))) ?_;refine jF ?_;refine ep ?_;simp only[dJ,dn,if_true];clear eH K2;refine iW _ _ ?_;clear iW K1;rw[tW,vM] at j7;refine fo ?_;intro K1 iW;refine jD @XP ?_;simp only[dJ];refine iW _ _ ?_;clear iW K1;refine fo ?_;intro K1 iW;refine jA ?_;refine dH ?_;refine dU (fun E s3=>∃q:Nat,q<=10∧E 0=.sl 1 176 (fb (fJ key)) .any∧E 1=.sl 1 256 (fb Aes.sb) .any∧E 7=.jd o7 0 1 16 16∧E 9=.sl 1 4 [nV 2,nV 3,nV 1,nV 1] .new∧E 10=nV (q+1)∧s3.dD o7=some (fb (Aes.state key b q))∧s.le s3)
    (fun E _=>match E 10 with |.v (.int _ i)=>11-i.toNat|_=>0) ?_ ?_
   ·exact⟨0,by omega,e0,e1,e7,rfl,rfl,j7,hle⟩
   ·clear j7 hle e0 e1 e2 e7 e8;rintro E2 s3 ⟨q,hq,e0,e1,e7,e9,Sr,j7,hle⟩ -
    refine wK fun K2 eH=>?_;by_cases LW:q<10
    ·refine jB (Ai @Sr (decide_eq_true (show((q+1:Nat):Int)<=10 by omega))) ?_;refine jE ?_;refine dX ?_;refine eH _ _ ?_;clear eH K2;refine wK fun K3 eX=>?_;refine dH ?_;refine jQ fun K hK=>?_;refine⟨by decide,by decide,fun qC AF=>?_⟩;refine hK _ _ ?_;clear hK K;rw[show List.replicate 16 (AV.v (.int .i64 0))=List.replicate 16 (nV 0) from rfl,<-tX (Aes.sh (Aes.state key b q)) 16];have n117:qC≠o7:=(fun e=>by rw[e,j7] at AF;cases AF);have P1:s.dD qC=none:=by
      cases h:s.dD qC with
      |none=>rfl
      |some cs=>rw[hle.dD _ _ h] at AF;cases AF
     generalize MB:s3.set qC (ig (Aes.sh (Aes.state key b q)) (fun _=>0) 16 0)=s4 at *
     have q7:s4.dD o7=some (fb (Aes.state key b q)):=(by rw[<-MB,AS.cO _ n117.symm];exact j7);have wX:s4.dD qC=some (ig (Aes.sh (Aes.state key b q)) (fun _=>0) 16 0):=(by rw[<-MB];exact AS.bG _ _ _);have ie:s.le s4:=(by rw[<-MB];exact AS.dW hle P1 _);clear MB j7 AF hle;have hBl:=Aes.oV key b q;refine wK fun K4 jm=>?_;refine jA ?_;refine dH ?_;refine dU (fun E s5=>∃c:Nat,c<=4∧E 0=.sl 1 176 (fb (fJ key)) .any∧E 1=.sl 1 256 (fb Aes.sb) .any∧E 7=.jd o7 0 1 16 16∧E 9=.sl 1 4 [nV 2,nV 3,nV 1,nV 1] .new∧E 10=nV (q+1)∧E 11=.jd qC 0 1 16 16∧E 12=nV c∧s5.dD o7=some (fb (Aes.state key b q))∧s5.dD qC=some (ig (Aes.sh (Aes.state key b q)) (fun _=>0) 16 (4*c))∧s.le s5)
      (fun E _=>match E 12 with |.v (.int _ i)=>4-i.toNat|_=>0) ?_ ?_
     ·exact⟨0,by omega,e0,e1,e7,e9,Sr,rfl,rfl,q7,wX,ie⟩
     ·clear q7 wX ie;rintro E3 s5 ⟨c,hc,f0,f1,f7,f9,f10,f11,g12,q7,wX,ie⟩ -
      refine wK fun K5 mE=>?_;by_cases EY:c<4
      ·refine jB (Ai @g12 (decide_eq_true (show(c:Int)<4 by omega))) ?_;refine jE ?_;refine dX ?_;refine mE _ _ ?_;clear mE K5;refine wK fun K6 ll=>?_;refine dH ?_;refine jA ?_;refine dH ?_;refine dU (fun E s6=>∃r:Nat,r<=4∧E 0=.sl 1 176 (fb (fJ key)) .any∧E 1=.sl 1 256 (fb Aes.sb) .any∧E 7=.jd o7 0 1 16 16∧E 9=.sl 1 4 [nV 2,nV 3,nV 1,nV 1] .new∧E 10=nV (q+1)∧E 11=.jd qC 0 1 16 16∧E 12=nV c∧E 13=nV r∧s6.dD o7=some (fb (Aes.state key b q))∧s6.dD qC=some (ig (Aes.sh (Aes.state key b q)) (fun _=>0) 16 (4*c+r))∧s.le s6)
        (fun E _=>match E 13 with |.v (.int _ i)=>4-i.toNat|_=>0) ?_ ?_
       ·exact⟨0,by omega,f0,f1,f7,f9,f10,f11,g12,rfl,q7,wX,ie⟩
       ·clear q7 wX ie f0 f1 f7 f9 f10 f11;rintro E4 s6 ⟨r,hr,f0,f1,f7,f9,f10,f11,f12,f13,q7,wX,ie⟩ -
        refine wK fun K7 v7=>?_;by_cases xo:r<4
        ·refine jB (Ai @f13 (decide_eq_true (show(r:Int)<4 by omega))) ?_;refine jE ?_;refine dX ?_;refine v7 _ _ ?_;clear v7 K7;refine wK fun K8 EW=>?_;refine dH ?_;have fO:=wk (Aes.sh (Aes.state key b q)) (fun _=>0) 16 (4*c+r) _ rfl;have LZ:Aes.sh (Aes.state key b q) (4*c+r)=Aes.S ((Aes.state key b q).getD (4*((c+r)%4)+r) 0):=by
          rw[Aes.sh,show(4*c+r)/4=c by omega,show(4*c+r)%4=r by omega]
         rw[LZ] at fO;have hlen:=sX (Aes.sh (Aes.state key b q)) (fun _=>0) 16 (4*c+r);have a0:=qH c (by omega);have a1:=gw (4*c) r (by omega);have a2:=gw c r (by omega);have a3:=QL (c+r);have a4:=qH ((c+r)%4) (by omega);have a5:=gw (4*((c+r)%4)) r (by omega);have vP:4*((c+r)%4)+r<16:=(by omega);have db:=ks (l:=Aes.state key b q) (4*((c+r)%4)+r) (by omega);clear LZ;generalize 4*((c+r)%4)+r=m at *
         generalize (Aes.state key b q).getD m 0=x at *
         have ds:=ks (l:=Aes.sb) x.toNat (by rw[Aes.oU];have:=x.toNat_lt;omega);rw[QO] at ds;have hx:=x.toNat_lt;have hBB:(fb (Aes.state key b q)).length=16:=(by rw[kq];exact hBl);generalize DG:ig (Aes.sh (Aes.state key b q)) (fun _=>0) 16 (4*c+r+1)=R' at *
         generalize ig (Aes.sh (Aes.state key b q)) (fun _=>0) 16 (4*c+r)=R at *
         generalize hB:fb (Aes.state key b q)=BQ at *
         generalize hY:fb Aes.sb=YY at *
         have m0:(0:Int)<=(m:Int):=(by omega);have m1:(m:Int)<((16:Nat):Int):=(by omega);have m2:(0:Int)<=((x.toNat:Nat):Int):=(by omega);have m3:((x.toNat:Nat):Int)<((256:Nat):Int):=(by omega);have m4:(0:Int)<=((4*c+r:Nat):Int):=(by omega);have m5:((4*c+r:Nat):Int)<((16:Nat):Int):=(by omega);have m6:4*c+r+1<=16:=(by omega);have m7:4*c+r<16:=(by omega);refine wE fun K hK=>?_;simp only[↓DN,Qa,Qb,Qc,Qd,Qe,Qf,Qg,Qh,reduceCtorEq,↓reduceIte,Na,Nb,Nc,Nk,Nf,Ng,Nh,Za,Zb,Zc,TT,f1,f7,f11,f12,f13,a0,a1,a2,a3,a4,a5,m0,m1,m2,m3,m4,m5,m6,m7,vP,q7,wX,db,ds,fO,hlen,hBB,qy];first
          |refine hK _ _ ?_
          |refine⟨by omega,hK _ _ ?_⟩
         clear hK K;simp only[dn,dJ,if_true,if_false];refine EW _ _ ?_;clear EW K8;refine jD (Ai @f13 (fy r (by omega))) ?_;refine⟨⟨r+1,by omega,f0,f1,f7,f9,f10,f11,f12,rfl,by rw[AS.cO _ n117.symm,q7],by rw[show 4*c+(r+1)=4*c+r+1 from rfl,DG];exact AS.bG _ _ _,AS.dW ie P1 _⟩,?_⟩;simp only[f13,dY,↓reduceIte];omega
        ·obtain rfl:r=4:=(by omega);refine jB (Ai @f13 (decide_eq_false (show ¬((4:Nat):Int)<4 by decide))) ?_;refine jF ?_;refine ep ?_;simp only[dJ,dn,if_true,if_false];clear v7 K7;refine ll _ _ ?_;clear ll K6;refine jD (Ai @f12 (fy c (by omega))) ?_;refine⟨⟨c+1,by omega,f0,f1,f7,f9,f10,f11,rfl,q7,by rw[show 4*(c+1)=4*c+4 from rfl];exact wX,ie⟩,?_⟩;simp only[g12,dY,↓reduceIte];omega
      ·obtain rfl:c=4:=(by omega);refine jB (Ai @g12 (decide_eq_false (show ¬((4:Nat):Int)<4 by decide))) ?_;refine jF ?_;refine ep ?_;simp only[dJ,dn,if_true];clear mE K5;refine jm _ _ ?_;clear jm K4;rw[show 4*4=16 from rfl,tW,show(List.range 16).map (Aes.sh (Aes.state key b q))=Xh (Aes.state key b q) from rfl] at wX;rw[<-Oc key b q (fun n=>(Aes.state key b (q+1)).getD n 0)] at q7;have To:(fb (Xh (Aes.state key b q))).length=16:=(by rw[kq,Xh];simp);have hSd:∀n,n<16->List.drop n (fb (Xh (Aes.state key b q)))=nV (Aes.sh (Aes.state key b q) n).toNat::List.drop (n+1) (fb (Xh (Aes.state key b q))):=by
        intro n hn;have:=ks (l:=Xh (Aes.state key b q)) n (by rw[Xh];simp;omega);rwa [show(Xh (Aes.state key b q)).getD n 0=Aes.sh (Aes.state key b q) n from Aes.qF _ _ _ _ hn] at this
       generalize hSS:fb (Xh (Aes.state key b q))=SS at *
       refine jA ?_;refine dH ?_;refine dU (fun E s6=>∃c:Nat,c<=4∧E 0=.sl 1 176 (fb (fJ key)) .any∧E 1=.sl 1 256 (fb Aes.sb) .any∧E 7=.jd o7 0 1 16 16∧E 9=.sl 1 4 [nV 2,nV 3,nV 1,nV 1] .new∧E 10=nV (q+1)∧E 11=.jd qC 0 1 16 16∧E 14=nV c∧s6.dD o7=some (ig (fun n=>(Aes.state key b (q+1)).getD n 0) (fun n=>(Aes.state key b q).getD n 0) 16 (4*c))∧s6.dD qC=some SS∧s.le s6)
        (fun E _=>match E 14 with |.v (.int _ i)=>4-i.toNat|_=>0) ?_ ?_
       ·exact⟨0,by omega,f0,f1,f7,f9,f10,f11,rfl,q7,wX,ie⟩
       ·clear q7 wX ie f0 f1 f7 f9 f10 f11 g12;rintro E5 s6 ⟨c,hc,f0,f1,f7,f9,f10,f11,g14,q7,wX,ie⟩ -
        refine wK fun K5 mE=>?_;by_cases EY:c<4
        ·refine jB (Ai @g14 (decide_eq_true (show(c:Int)<4 by omega))) ?_;refine jE ?_;refine dX ?_;refine mE _ _ ?_;clear mE K5;refine wK fun K6 ll=>?_;refine dH ?_;refine jA ?_;refine dH ?_;refine dU (fun E s7=>∃r:Nat,r<=4∧E 0=.sl 1 176 (fb (fJ key)) .any∧E 1=.sl 1 256 (fb Aes.sb) .any∧E 7=.jd o7 0 1 16 16∧E 9=.sl 1 4 [nV 2,nV 3,nV 1,nV 1] .new∧E 10=nV (q+1)∧E 11=.jd qC 0 1 16 16∧E 14=nV c∧E 15=nV r∧s7.dD o7=some (ig (fun n=>(Aes.state key b (q+1)).getD n 0) (fun n=>(Aes.state key b q).getD n 0) 16 (4*c+r))∧s7.dD qC=some SS∧s.le s7)
          (fun E _=>match E 15 with |.v (.int _ i)=>4-i.toNat|_=>0) ?_ ?_
         ·exact⟨0,by omega,f0,f1,f7,f9,f10,f11,g14,rfl,q7,wX,ie⟩
         ·clear q7 wX ie f0 f1 f7 f9 f10 f11;rintro E6 s7 ⟨r,hr,f0,f1,f7,f9,f10,f11,f14,f15,q7,wX,ie⟩ -
          refine wK fun K7 v7=>?_;by_cases xo:r<4
          ·refine jB (Ai @f15 (decide_eq_true (show(r:Int)<4 by omega))) ?_;refine jE ?_;refine dX ?_;refine v7 _ _ ?_;clear v7 K7;refine wK fun K8 EW=>?_;refine dH ?_;have a0:=qH c (by omega);have a1:=gw (4*c) r (by omega);have hd:=hSd (4*c+r) (by omega);have m4:(0:Int)<=((4*c+r:Nat):Int):=(by omega);have m5:((4*c+r:Nat):Int)<((16:Nat):Int):=(by omega);have m6:4*c+r+1<=16:=(by omega);have m7:4*c+r<16:=(by omega);refine jB (Ai @f11 (Ai @f14 (Ai @f15 (Ai @a0 (Ai @a1 (Ai @m4 (Ai @m5 (Ai @m6 (Ai @m7 (Ai @wX (Ai @hd @To))))))))))) ?_;refine wK fun K9 hK9=>?_;have GM:=Ob key b q (4*c+r) m7;have UE:qz (Aes.state key b q) (q+1==10) (4*c+r)=if(q+1==10)=true then Aes.sh (Aes.state key b q) (4*c+r) else Aes.mx (fun i=>Aes.sh (Aes.state key b q) (4*c+i)) r:=by
            rw[qz,Aes.IP _ _ _ m7,show(4*c+r)/4=c by omega,show(4*c+r)%4=r by omega]
           have qW:∀(E7:Env),E7 0=.sl 1 176 (fb (fJ key)) .any->E7 1=.sl 1 256 (fb Aes.sb) .any->E7 7=.jd o7 0 1 16 16->E7 9=.sl 1 4 [nV 2,nV 3,nV 1,nV 1] .new->E7 10=nV (q+1)->E7 11=.jd qC 0 1 16 16->E7 14=nV c->E7 15=nV r->E7 16=nV (qz (Aes.state key b q) (q+1==10) (4*c+r)).toNat->K9 E7 s7:=by
            intro E7 g0 g1 g7 g9 g10 g11 Q7 g15 g16;refine hK9 _ _ ?_;clear hK9 K9;have fO:=wk (fun n=>(Aes.state key b (q+1)).getD n 0) (fun n=>(Aes.state key b q).getD n 0) 16 (4*c+r) _ (by rw[<-GM]);have hlen:=sX (fun n=>(Aes.state key b (q+1)).getD n 0) (fun n=>(Aes.state key b q).getD n 0) 16 (4*c+r);have dk:=Hb key (16*(q+1)+(4*c+r)) (by omega);have a2:=xaI (q+1) (by omega);have a3:=gw (16*(q+1)) (4*c) (by omega);have a4:=gw (16*(q+1)+4*c) r (by omega);rw[Nat.add_assoc (16*(q+1)) (4*c) r] at a4;have UO:(fb (fJ key)).length=176:=(by rw[kq,iX]);generalize DG:ig (fun n=>(Aes.state key b (q+1)).getD n 0) (fun n=>(Aes.state key b q).getD n 0) 16 (4*c+r+1)=R' at *
            generalize ig (fun n=>(Aes.state key b (q+1)).getD n 0) (fun n=>(Aes.state key b q).getD n 0) 16 (4*c+r)=R at *
            generalize qz (Aes.state key b q) (q+1==10) (4*c+r)=x at *
            generalize Aes.ak key (16*(q+1)+(4*c+r))=y at *
            generalize hKS:fb (fJ key)=KS at *
            have u0:(0:Int)<=((16*(q+1)+(4*c+r):Nat):Int):=(by omega);have u1:((16*(q+1)+(4*c+r):Nat):Int)<((176:Nat):Int):=(by omega);refine jD (Ai @g0 (Ai @g7 (Ai @g10 (Ai @Q7 (Ai @g15 (Ai @g16 (Ai @a0 (Ai @a1 (Ai @a2 (Ai @a3 (Ai @a4 (Ai @m4 (Ai @m5 (Ai @m6 (Ai @m7 (Ai @u0 (Ai @u1 (Ai @dk (Ai @ER (Ai @q7 (Ai @fO (Ai @hlen @UO)))))))))))))))))))))) ?_;simp only[dn,dJ,if_true,if_false];refine EW _ _ ?_;clear EW K8;refine jD (Ai @g15 (fy r (by omega))) ?_;refine⟨⟨r+1,by omega,g0,g1,g7,g9,g10,g11,Q7,rfl,by rw[show 4*c+(r+1)=4*c+r+1 from rfl,DG];exact AS.bG _ _ _,by rw[AS.cO _ n117];exact wX,AS.dW ie DD _⟩,?_⟩;simp only[f15,dY,↓reduceIte];omega
           clear EW hK9;by_cases G8:q+1=10
           ·rw[if_pos (by simpa using G8)] at UE;rw[<-UE] at hd;refine jB (Ai @f10 (decide_eq_false (show ¬((q+1:Nat):Int)<10 by omega))) ?_;refine jF ?_;refine dX ?_;exact qW _ f0 f1 f7 f9 f10 f11 f14 f15 (by simp only[dY,Nc,↓reduceIte];rw[UE])
           ·rw[if_neg (by simpa using G8)] at UE;refine jB (Ai @f10 (decide_eq_true (show((q+1:Nat):Int)<10 by omega))) ?_;refine jE ?_;refine jA ?_;refine jA ?_;refine dH ?_;refine dU (fun E s8=>∃k:Nat,k<=4∧E 0=.sl 1 176 (fb (fJ key)) .any∧E 1=.sl 1 256 (fb Aes.sb) .any∧E 7=.jd o7 0 1 16 16∧E 9=.sl 1 4 [nV 2,nV 3,nV 1,nV 1] .new∧E 10=nV (q+1)∧E 11=.jd qC 0 1 16 16∧E 14=nV c∧E 15=nV r∧E 16=nV (acc (fun i=>Aes.sh (Aes.state key b q) (4*c+i)) r k).toNat∧E 17=nV k∧s8=s7)
             (fun E _=>match E 17 with |.v (.int _ i)=>4-i.toNat|_=>0) ?_ ?_
            ·exact⟨0,by omega,f0,f1,f7,f9,f10,f11,f14,f15,rfl,rfl,rfl⟩
            ·rintro E7 s8 ⟨k,QX,g0,g1,g7,g9,g10,g11,Q7,g15,g16,g17,rfl⟩ -
             refine wK fun K10 xee=>?_;by_cases sC:k<4
             ·refine jB (Ai @g17 (decide_eq_true (show(k:Int)<4 by omega))) ?_;refine jE ?_;refine dX ?_;refine xee _ _ ?_;clear xee K10;refine wK fun K11 xef=>?_;refine dH ?_;have Lp:acc (fun i=>Aes.sh (Aes.state key b q) (4*c+i)) r (k+1)=acc (fun i=>Aes.sh (Aes.state key b q) (4*c+i)) r k ^^^ mm (Aes.sh (Aes.state key b q) (4*c+k)) ((k+4-r)%4):=rfl;have b1:=gw (4*c) k (by omega);have b2:=UD k r sC xo;have hdk:=hSd (4*c+k) (by omega);have hdm:=Xi ((k+4-r)%4) (by omega);have Yl:=fun s=>rD (Γ:=Γ) (Aes.sh (Aes.state key b q) (4*c+k)).toNat (mN ((k+4-r)%4)) (Aes.sh (Aes.state key b q) (4*c+k)).toNat_lt (xed _) s;rw[xaJ] at Yl;generalize xeg:acc (fun i=>Aes.sh (Aes.state key b q) (4*c+i)) r (k+1)=A' at *
              generalize acc (fun i=>Aes.sh (Aes.state key b q) (4*c+i)) r k=A0 at *
              have v0:(0:Int)<=((4*c+k:Nat):Int):=(by omega);have v1:((4*c+k:Nat):Int)<((16:Nat):Int):=(by omega);have v2:(0:Int)<=(((k+4-r)%4:Nat):Int):=(by omega);have v3:(((k+4-r)%4:Nat):Int)<((4:Nat):Int):=(by omega);have v4:4*c+k<16:=(by omega);have v5:4*c+k+1<=16:=(by omega);generalize (k+4-r)%4=m at *
              generalize mm (Aes.sh (Aes.state key b q) (4*c+k)) m=mv at *
              generalize Aes.sh (Aes.state key b q) (4*c+k)=x at *
              generalize hMM:[nV 2,nV 3,nV 1,nV 1]=MM at *
              refine gl T.mixed [(qC,SS)] [16] [7] [] (by kernel_rfl) (by simp only[dZ,ec,and_true];simp[AS.set,dY,wX]) ?_;intro K hK;simp only[↓eN,↓eD,gY,gS,eg,ej,dZ,ec,List.any_cons,List.any_nil,List.contains_cons,List.contains_nil,Nat.reduceBEq,Bool.or_false,Bool.or_true,Bool.or_self,Bool.false_or,↓DN,Qa,Qb,Qc,Qd,Qe,Qf,Qg,Qh,reduceCtorEq,↓reduceIte,Na,Nb,Nc,Nk,Nf,Ng,Nh,Za,Zb,Zc,TT,g9,g11,Q7,g15,g16,g17,a0,b1,b2,v0,v1,v2,v3,v4,v5,hdk,hdm,wX,To,qy];refine b6 (Yl _) ?_;rintro r9 s9 ⟨rfl,rfl⟩;simp only[↓fM,↓fi,eZ,↓eN,↓eD,gY,gS,eg,ej,dZ,ec,List.any_cons,List.any_nil,DX,Nat.reduceBEq,↓DN,Qa,Qb,Qc,Qd,Qe,Qf,Qg,Qh,reduceCtorEq,↓reduceIte,Na,Nb,Nc,Nk,Nf,Ng,Nh,Za,Zb,Zc,TT,g9,g11,Q7,g15,g16,g17,a0,b1,b2,v0,v1,v2,v3,v4,v5,hdk,hdm,wX,To,qy,ER];refine hK _ _ ?_;clear hK K;simp only[dn,dJ,if_true,if_false];refine xef _ _ ?_;clear xef K11;refine jD (Ai @g17 (fy k (by omega))) ?_;refine⟨⟨k+1,by omega,g0,g1,g7,g9,g10,g11,Q7,g15,by simp only[dY,Nc,↓reduceIte];rw[xeg,Lp],rfl,rfl⟩,?_⟩;simp only[g17,dY,↓reduceIte];omega
             ·obtain rfl:k=4:=(by omega);rw[xaK _ _ xo,<-UE] at g16;refine jB (Ai @g17 (decide_eq_false (show ¬((4:Nat):Int)<4 by decide))) ?_;refine jF ?_;refine ep ?_;simp only[dJ,dn,if_true,if_false];exact qW _ g0 g1 g7 g9 g10 g11 Q7 g15 g16
          ·obtain rfl:r=4:=(by omega);refine jB (Ai @f15 (decide_eq_false (show ¬((4:Nat):Int)<4 by decide))) ?_;refine jF ?_;refine ep ?_;simp only[dJ,dn,if_true,if_false];clear v7 K7;refine ll _ _ ?_;clear ll K6;refine jD (Ai @f14 (fy c (by omega))) ?_;refine⟨⟨c+1,by omega,f0,f1,f7,f9,f10,f11,rfl,by rw[show 4*(c+1)=4*c+4 from rfl];exact q7,wX,ie⟩,?_⟩;simp only[g14,dY,↓reduceIte];omega
        ·obtain rfl:c=4:=(by omega);refine jB (Ai @g14 (decide_eq_false (show ¬((4:Nat):Int)<4 by decide))) ?_;refine jF ?_;refine ep ?_;simp only[dJ,dn,if_true,if_false];clear mE K5;refine eX _ _ ?_;clear eX K3;rw[show 4*4=16 from rfl,tW,vM] at q7;refine jD (Ai @f10 (fy (q+1) (by omega))) ?_;refine⟨⟨q+1,by omega,f0,f1,f7,f9,rfl,q7,ie⟩,?_⟩;simp only[Sr,dY,↓reduceIte];omega
    ·obtain rfl:q=10:=(by omega);refine jB (Ai @Sr (decide_eq_false (show ¬((10+1:Nat):Int)<=10 by decide))) ?_;refine jF ?_;refine ep ?_;simp only[dJ,dn,if_true];clear eH K2;refine iW _ _ ?_;clear iW K1;rw[show Aes.state key b 10=Aes.block key b from rfl] at j7;have hl5:(fb (Aes.block key b)).length=16:=(by rw[kq,Aes.vZ]);refine vS (kx.freeze (d:=7) (o:=o7) (off:=0) (sz:=1) (n:=16) (cap:=16) (by simp only[dY,Nc,↓reduceIte];exact e7) j7 (by omega)) (fY.g ?_);have mi:s.le (s3.drop o7):=AS.th hle DD;generalize s3.drop o7=s4 at *
     rw[show((fb (Aes.block key b)).drop 0).take (16*1)=fb (Aes.block key b) from by rw[List.drop_zero,List.take_of_length_le (by omega)]];generalize fb (Aes.block key b)=X at *
     refine jA ?_;refine jI ?_;exact⟨_,s,AV.dV.refl _,mi,rfl,rfl⟩
end Go.Proofs.YtbiefppedlodiaaGreatDoor
