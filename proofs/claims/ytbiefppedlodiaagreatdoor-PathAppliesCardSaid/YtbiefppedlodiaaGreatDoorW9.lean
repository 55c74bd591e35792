/- Contracts of functions, each walked once; each theorem states its conditions. -/
import Derived.Test.YtbiefppedlodiaaGreatDoorAMp6
import Derived.Test.YtbiefppedlodiaaGreatDoorW1
import Derived.Test.YtbiefppedlodiaaGreatDoorW8
import Derived.Test.YtbiefppedlodiaaGreatDoorAMp3
import Derived.Test.YtbiefppedlodiaaGreatDoorAMp5
import Derived.Test.YtbiefppedlodiaaGreatDoorW7
import Derived.Test.YtbiefppedlodiaaGreatDoorW2
import Derived.Test.YtbiefppedlodiaaGreatDoorW3
import Derived.Test.YtbiefppedlodiaaGreatDoorW6
set_option linter.unusedSimpArgs false
set_option linter.unusedVariables false
open Nat renaming reduceLT → Na, reduceLeDiff → Nb, reduceEqDiff → Nc, reduceAdd → Nk, reduceMul → Nf, reducePow → Ng, reduceSub → Nh, reduceBEq → Nz
open Int renaming reduceLT → Za, reduceLE → Zb, reduceToNat → Zc
open And renaming intro → Ai
open Go.AM renaming ashift → Qa, aconv → Qb, aindexAddr → Qc, aindex → Qd, aslice → Qe, abuiltin → Qf, awp_reg_seq → wS, awp_reg_end → wE, awp_seq_k → wK, awp_cond_k → wC
open Go.AM.AV renaming cells → Qg, one → Qh
set_option maxRecDepth 100000
set_option maxHeartbeats 8000000
namespace Go.Proofs.YtbiefppedlodiaaGreatDoor
open Go Go.AM Go.Proofs Tryz
variable{Γ:Nat→List AV}
theorem Az(key:List UInt8)(hk:key.length=16)(s:AS):
  aj prog Γ 240 [.agg (key.map ai),.agg (Aes.sb.map ai)] s (fun r s'=>r=.agg ((mM key).map ai)∧s'=s):=by
 refine aa func240 rfl ntmps240 results240 (by simp) ?_;have qY:(key.map ai).length=16:=(by rw[List.length_map,hk]);have TJ:List.take 16 (key.map ai)=key.map ai:=List.take_of_length_le (by omega);have ZW:=ck key;have tn:(Aes.sb.map ai).length=256:=(by rw[List.length_map,Aes.r4]);refine jS @z167 fun K hK=>?_;intro o2 qG o3 An;obtain⟨tc,Ao⟩:=AS.eW An;intro o4 CP;obtain⟨P2,Jx,u6⟩:=lu CP;refine hK _ _ ?_;clear hK K;refine jS @z167 fun K hK=>?_;intro o5 ES;obtain⟨HI,TK,Pr,GW⟩:=vY ES;refine hK _ _ ?_;clear hK K;generalize mh:(((s.set o2 (key.map ai)).set o3 (Aes.sb.map ai)).set o4 (List.replicate 176 (bV 0))).set o5 (List.replicate 176 (bV 0))=s0 at *
 have j2:s0.aw o2=some (key.map ai):=(by rw[←mh,AS.ao _ Pr.symm,AS.ao _ Jx.symm,AS.ao _ tc.symm,AS.ae]);have j3:s0.aw o3=some (Aes.sb.map ai):=(by rw[←mh,AS.ao _ TK.symm,AS.ao _ P2.symm,AS.ae]);have j4:s0.aw o4=some (List.replicate 176 (bV 0)):=(by rw[←mh,AS.ao _ HI.symm,AS.ae]);have j5:s0.aw o5=some (List.replicate 176 (bV 0)):=(by rw[←mh];exact AS.ae _ _ _);have hle:s.le s0:=(by rw[←mh];exact AS.aE (AS.aE (AS.aE (AS.aE (AS.le.refl s) qG _) Ao _) u6 _) GW _);clear mh An CP ES;have sA:(List.replicate 176 (bV 0)).length=176:=(by simp);rw[←iE (Aes.ak key) 176] at j5;generalize List.replicate 176 (bV 0)=Z at *
 have M4:=zp (Aes.ak key) (fun _=>0) 176 key 0 (fun k h=>by rw[Nat.zero_add,Aes.Tk k (by omega)]);rw[Nat.zero_add,hk] at M4;have uj:=dq (Aes.ak key) (fun _=>0) 176 0;generalize bg (Aes.ak key) (fun _=>0) 176 0=R0 at *
 refine jB (Ai @j2 (Ai @j5 (Ai @qY (Ai @TJ (Ai @ZW (Ai @uj (Ai @M4 (Ai @Pr (Ai @Pr.symm (show(0:Int)<((11:Nat):Int) from by decide)))))))))) ?_;clear M4;generalize gC:s0.set o5 (bg (Aes.ak key) (fun _=>0) 176 16)=s1 at *
 have q3:s1.aw o3=some (Aes.sb.map ai):=(by rw[←gC,AS.ao _ TK.symm];exact j3);have q4:s1.aw o4=some Z:=(by rw[←gC,AS.ao _ HI.symm];exact j4);have q5:s1.aw o5=some (bg (Aes.ak key) (fun _=>0) 176 16):=(by rw[←gC];exact AS.ae _ _ _);have pc:s.le s1:=(by rw[←gC];exact AS.aE hle GW _);clear gC j2 j3 j4 j5 hle;refine jA ?_;refine wK fun K hK=>?_;refine jA ?_;refine ah ?_;refine aD (fun E s2=>∃q:Nat,q≤10∧E 3=.ptr o3 0∧E 4=.ptr o4 0∧E 5=.ptr o5 0∧E 6=bV (Aes.JY q)∧E 7=.v (.int .i64 ((q+1:Nat):Int))∧s2.aw o3=some (Aes.sb.map ai)∧s2.aw o4=some Z∧s2.aw o5=some (bg (Aes.ak key) (fun _=>0) 176 ((q+1)*16))∧s.le s2)
  (fun E _=>match E 7 with |.v (.int _ i)=>11-i.toNat|_=>0) ?_ ?_
 ·exact⟨0,by omega,rfl,rfl,rfl,rfl,rfl,q3,q4,q5,pc⟩
 ·clear q3 q4 q5 pc;rintro E1 s2 ⟨q,hq,e3,e4,e5,e6,e7,j3,j4,j5,hle⟩ -
  refine wK fun K2 aX=>?_;by_cases I8:q<10
  ·have hl:=Aes.r7 hk q;refine jB (Ai @e7 (decide_eq_true (show((q+1:Nat):Int)≤10 by omega))) ?_;refine jE ?_;refine ab ?_;refine aX _ _ ?_;clear aX K2;refine wK fun K3 br=>?_;refine ah ?_;have hld:=BJ key hk (fun _=>0) q ((q+1)*16) (by omega) (Nat.le_refl _);have p9:di .i64 ((q+1:Nat):Int) 1=((q:Nat):Int):=gF (q+1) 1 (by omega) (by omega);have pR:=dq (Aes.ak key) (fun _=>0) 176 ((q+1)*16);have HM:((Aes.kr key q).map ai).length=16:=(by rw[List.length_map,hl]);have ZX:=ck (Aes.kr key q);have k0:(0:Int)≤((q:Nat):Int):=(by omega);have k1:((q:Nat):Int)<((11:Nat):Int):=(by omega);have k2:q*16+16≤176:=(by omega);have Fs:16≤(List.drop (q*16) (bg (Aes.ak key) (fun _=>0) 176 ((q+1)*16))).length:=(by rw[List.length_drop,pR];omega);generalize hO:bg (Aes.ak key) (fun _=>0) 176 ((q+1)*16)=O at *
   generalize hW:(Aes.kr key q).map ai=W at *
   refine wS fun K hK=>?_;simp only[↓DN,Qa,Qb,Qc,Qd,Qe,Qf,Qg,Qh,reduceCtorEq,↓reduceIte,Na,Nb,Nc,Nk,Nf,Ng,Nh,Za,Zb,Zc,TT,e5,e7,p9,j5,hld,HM,ZX,k0,k1,k2,pR,Fs,Nat.le_refl];intro o8 Hi;rw[Rv,bB (List.replicate 16 (bV 0)) W (by rw[HM];simp)];refine hK _ _ ?_;clear hK K;have n83:o8≠o3:=(fun e=>by rw[e,j3] at Hi;cases Hi);have n84:o8≠o4:=(fun e=>by rw[e,j4] at Hi;cases Hi);have Rx:o8≠o5:=(fun e=>by rw[e,j5] at Hi;cases Hi);have hs8:s.aw o8=none:=by
    cases h:s.aw o8 with
    |none=>rfl
    |some cs=>rw[hle.aw _ _ h] at Hi;cases Hi
   generalize ND:s2.set o8 W=s3 at *
   have q3:s3.aw o3=some (Aes.sb.map ai):=(by rw[←ND,AS.ao _ n83.symm];exact j3);have q4:s3.aw o4=some Z:=(by rw[←ND,AS.ao _ n84.symm];exact j4);have q5:s3.aw o5=some O:=(by rw[←ND,AS.ao _ Rx.symm];exact j5);have q8:s3.aw o8=some W:=(by rw[←ND];exact AS.ae _ _ _);have gQ:s.le s3:=(by rw[←ND];exact AS.aE hle hs8 _);clear ND j3 j4 j5 Hi hle;have k3:(0:Int)≤((q+1:Nat):Int):=(by omega);have k4:((q+1:Nat):Int)<((11:Nat):Int):=(by omega);refine jB (Ai @e5 (Ai @e7 (Ai @k3 @k4))) ?_;rw[←hO,←M3 key (fun _=>0) q] at q5;clear hld pR Fs hO O;refine wK fun K4 eb=>?_;refine jA ?_;refine ah ?_;refine aD (fun E s4=>∃i:Nat,i≤4∧E 3=.ptr o3 0∧E 4=.ptr o4 0∧E 5=.ptr o5 0∧E 6=bV (Aes.JY q)∧E 7=.v (.int .i64 ((q+1:Nat):Int))∧E 8=.ptr o8 0∧E 9=.ptr o5 ((q+1)*16)∧E 24=.v (.int .i64 i)∧s4.aw o3=some (Aes.sb.map ai)∧s4.aw o4=some Z∧s4.aw o5=some (bg (Dj key q) (fun _=>0) 176 ((q+1)*16+i))∧s4.aw o8=some W∧s.le s4)
    (fun E _=>match E 24 with |.v (.int _ i)=>4-i.toNat|_=>0) ?_ ?_
   ·exact⟨0,by omega,e3,e4,e5,e6,e7,rfl,rfl,rfl,q3,q4,q5,q8,gQ⟩
   ·clear q3 q4 q5 q8 gQ;rintro E4 s4 ⟨i,hi,g3,g4,g5,g6,g7,g8,g9,g24,q3,q4,q5,q8,gQ⟩ -
    by_cases aY:i<4
    ·refine jB (Ai @g24 (decide_eq_true (show(i:Int)<4 by omega))) ?_;refine wK fun K6 kC=>?_;refine jE ?_;refine ab ?_;refine kC _ _ ?_;clear kC K6;refine wK fun K7 H4=>?_;refine ah ?_;refine jB @g24 ?_;have cr:=dW (Dj key q) (fun _=>0) 176 ((q+1)*16+i) _ (P3 key hk q i aY);have hlen:=dq (Dj key q) (fun _=>0) 176 ((q+1)*16+i);have a1:=MW i (by omega);have a2:=P1 (i+1);have a3:=ZV ((i+1)%4) (by omega);have d0:=dt (l:=Aes.kr key q) i (by omega);have d1:=dt (l:=Aes.kr key q) (12+(i+1)%4) (by omega);rw[hW] at d0 d1;have m0:(0:Int)≤(i:Int):=(by omega);have m1:(i:Int)<((16:Nat):Int):=(by omega);have m2:(0:Int)≤((12+(i+1)%4:Nat):Int):=(by omega);have m3:((12+(i+1)%4:Nat):Int)<((16:Nat):Int):=(by omega);have mc:(q+1)*16+i+1≤176:=(by omega);have ZY:(q+1)*16+i<176:=(by omega);generalize Hg:bg (Dj key q) (fun _=>0) 176 ((q+1)*16+i+1)=R' at *
     generalize bg (Dj key q) (fun _=>0) 176 ((q+1)*16+i)=R at *
     generalize 12+(i+1)%4=m at *
     have hx:=((Aes.kr key q).getD m 0).toNat_lt;have ds:=dt (l:=Aes.sb) ((Aes.kr key q).getD m 0).toNat (by rw[Aes.r4];omega);rw[xc8] at ds;generalize Aes.S ((Aes.kr key q).getD m 0)=y at *
     generalize (Aes.kr key q).getD m 0=x at *
     generalize (Aes.kr key q).getD i 0=v at *
     have m4:(0:Int)≤((x.toNat:Nat):Int):=(by omega);have m5:((x.toNat:Nat):Int)<((256:Nat):Int):=(by omega);generalize hY2:Aes.sb.map ai=Y2 at *
     refine cD T.mixed [(o8,W),(o3,Y2),(o5,R)] [] [4,10,12] [16] (by kernel_rfl) (by simp only[aG,aJ,and_true];simp[AS.set,aH,q3,q5,q8]) ?_;intro K hK;simp only[↓bo,↓a7,da,cX,aL,aR,aG,aJ,List.any_cons,List.any_nil,List.contains_cons,List.contains_nil,Nat.reduceBEq,Bool.or_false,Bool.or_true,Bool.or_self,Bool.false_or,↓DN,Qa,Qb,Qc,Qd,Qe,Qf,Qg,Qh,reduceCtorEq,↓reduceIte,Na,Nb,Nc,Nk,Nf,Ng,Nh,Za,Zb,Zc,TT,g3,g5,g8,g9,g24,m0,m1,m2,m3,m4,m5,mc,ZY,d0,d1,ds,a1,a2,a3,xf,n83,n83.symm,Rx,Rx.symm,TK,TK.symm,q3,q5,q8,ai,oU,cr,hlen,HM,tn];refine hK _ _ ?_;clear hK K;simp only[ar,az,if_true,if_false];refine H4 _ _ ?_;clear H4 K7;refine jD (Ai @g24 (cN i (by omega))) ?_;refine⟨⟨i+1,by omega,g3,g4,g5,g6,g7,g8,g9,rfl,by rw[AS.ao _ TK.symm,q3],by rw[AS.ao _ HI.symm];exact q4,by rw[show(q+1)*16+(i+1)=(q+1)*16+i+1 from rfl,Hg];exact AS.ae _ _ _,by rw[AS.ao _ Rx];exact q8,AS.aE gQ GW _⟩,?_⟩;simp only[g24,aH,↓reduceIte];omega
    ·obtain rfl:i=4:=(by omega);refine jB (Ai @g24 (decide_eq_false (show ¬((4:Nat):Int)<4 by decide))) ?_;refine wK fun K6 kC=>?_;refine jF ?_;refine aC ?_;simp only[az,ar,if_true];clear kC K6;refine eb _ _ ?_;clear eb K4;have ZZ:=P4 key (fun _=>0) q I8;have Ys:=ou (Dj key q) (fun _=>0) 176 ((q+1)*16+4) ((q+1)*16) (by omega);rw[if_pos (by omega)] at Ys;have hlen:=dq (Dj key q) (fun _=>0) 176 ((q+1)*16+4);generalize Hg:bg (Aes.ak key) (fun _=>0) 176 ((q+1)*16+4)=R' at *
     generalize bg (Dj key q) (fun _=>0) 176 ((q+1)*16+4)=R at *
     generalize Dj key q ((q+1)*16)=x at *
     have mc:(q+1)*16+1≤176:=(by omega);have ZY:(q+1)*16<176:=(by omega);refine dC T.mixed [(o5,R)] [] [3] [8] (by kernel_rfl) (by simp only[aG,aJ,and_true];simp[AS.set,aH,q5]) ?_;intro K hK;simp only[↓bo,↓a7,da,cX,aL,aR,aG,aJ,List.any_cons,List.any_nil,List.contains_cons,List.contains_nil,Nat.reduceBEq,Bool.or_false,Bool.or_true,Bool.or_self,Bool.false_or,↓DN,Qa,Qb,Qc,Qd,Qe,Qf,Qg,Qh,reduceCtorEq,↓reduceIte,Na,Nb,Nc,Nk,Nf,Ng,Nh,Za,Zb,Zc,TT,g6,g9,mc,ZY,q5,Ys,ai,oU,ZZ,hlen,show(0:Int)<((16:Nat):Int) from by decide];refine hK _ _ ?_;clear hK K;generalize FH:s4.set o5 R'=s5 at *
     have t3:s5.aw o3=some (Aes.sb.map ai):=(by rw[←FH,AS.ao _ TK.symm];exact q3);have t4:s5.aw o4=some Z:=(by rw[←FH,AS.ao _ HI.symm];exact q4);have t5:s5.aw o5=some R':=(by rw[←FH];exact AS.ae _ _ _);have t8:s5.aw o8=some W:=(by rw[←FH,AS.ao _ Rx];exact q8);have fR:s.le s5:=(by rw[←FH];exact AS.aE gQ GW _);clear FH q3 q4 q5 q8 gQ Ys ZZ hlen;rw[←Hg] at t5;clear Hg R';refine wK fun K4 eb=>?_;refine jA ?_;refine ah ?_;refine aD (fun E s6=>∃i:Nat,4≤i∧i≤16∧E 3=.ptr o3 0∧E 4=.ptr o4 0∧E 5=.ptr o5 0∧E 6=bV (Aes.JY q)∧E 7=.v (.int .i64 ((q+1:Nat):Int))∧E 8=.ptr o8 0∧E 9=.ptr o5 ((q+1)*16)∧E 11=.v (.int .i64 i)∧s6.aw o3=some (Aes.sb.map ai)∧s6.aw o4=some Z∧s6.aw o5=some (bg (Aes.ak key) (fun _=>0) 176 ((q+1)*16+i))∧s6.aw o8=some W∧s.le s6)
      (fun E _=>match E 11 with |.v (.int _ i)=>16-i.toNat|_=>0) ?_ ?_
     ·exact⟨4,by omega,by omega,g3,g4,g5,g6,g7,g8,g9,rfl,t3,t4,t5,t8,fR⟩
     ·clear t3 t4 t5 t8 fR g3 g4 g5 g6 g7 g8 g9;rintro E6 s6 ⟨i,hi4,hi,g3,g4,g5,g6,g7,g8,g9,g11,t3,t4,t5,t8,fR⟩ -
      refine wK fun K6 kC=>?_;by_cases aY:i<16
      ·refine jB (Ai @g11 (decide_eq_true (show(i:Int)<16 by omega))) ?_;refine jE ?_;refine ab ?_;refine kC _ _ ?_;clear kC K6;refine wK fun K7 H4=>?_;refine ah ?_;have cr:=dW (Aes.ak key) (fun _=>0) 176 ((q+1)*16+i) _ (JL key hk q i hi4 aY);have hlen:=dq (Aes.ak key) (fun _=>0) 176 ((q+1)*16+i);have a1:di .i64 (i:Int) 4=((i-4:Nat):Int):=gF i 4 hi4 (by omega);have d0:=dt (l:=Aes.kr key q) i (by omega);rw[hW] at d0;have d1:=ou (Aes.ak key) (fun _=>0) 176 ((q+1)*16+i) ((q+1)*16+(i-4)) (by omega);rw[if_pos (by omega)] at d1;have m0:(0:Int)≤(i:Int):=(by omega);have m1:(i:Int)<((16:Nat):Int):=(by omega);have m2:(0:Int)≤((i-4:Nat):Int):=(by omega);have m3:((i-4:Nat):Int)<((16:Nat):Int):=(by omega);have mc:(q+1)*16+i+1≤176:=(by omega);have ZY:(q+1)*16+i<176:=(by omega);generalize Hg:bg (Aes.ak key) (fun _=>0) 176 ((q+1)*16+i+1)=R' at *
       generalize bg (Aes.ak key) (fun _=>0) 176 ((q+1)*16+i)=R at *
       generalize Aes.ak key ((q+1)*16+(i-4))=x at *
       generalize (Aes.kr key q).getD i 0=v at *
       refine cD T.mixed [(o8,W),(o5,R)] [] [4,10] [14] (by kernel_rfl) (by simp only[aG,aJ,and_true];simp[AS.set,aH,t5,t8]) ?_;intro K hK;simp only[↓bo,↓a7,da,cX,aL,aR,aG,aJ,List.any_cons,List.any_nil,List.contains_cons,List.contains_nil,Nat.reduceBEq,Bool.or_false,Bool.or_true,Bool.or_self,Bool.false_or,↓DN,Qa,Qb,Qc,Qd,Qe,Qf,Qg,Qh,reduceCtorEq,↓reduceIte,Na,Nb,Nc,Nk,Nf,Ng,Nh,Za,Zb,Zc,TT,g5,g8,g9,g11,m0,m1,m2,m3,mc,ZY,d0,d1,a1,Rx,Rx.symm,t5,t8,ai,oU,cr,hlen,HM];refine hK _ _ ?_;clear hK K;simp only[ar,az,if_true,if_false];refine H4 _ _ ?_;clear H4 K7;refine jD (Ai @g11 (cN i (by omega))) ?_;refine⟨⟨i+1,by omega,by omega,g3,g4,g5,g6,g7,g8,g9,rfl,by rw[AS.ao _ TK.symm];exact t3,by rw[AS.ao _ HI.symm];exact t4,by rw[show(q+1)*16+(i+1)=(q+1)*16+i+1 from rfl,Hg];exact AS.ae _ _ _,by rw[AS.ao _ Rx];exact t8,AS.aE fR GW _⟩,?_⟩;simp only[g11,aH,↓reduceIte];omega
      ·obtain rfl:i=16:=(by omega);refine jB (Ai @g11 (decide_eq_false (show ¬((16:Nat):Int)<16 by decide))) ?_;refine jF ?_;refine aC ?_;simp only[az,ar,if_true];clear kC K6;refine eb _ _ ?_;clear eb K4;refine jU @g6 fun K hK=>?_;refine ad (lk (Aes.JY q) _) ?_;rintro r s7 ⟨rfl,rfl⟩;simp only[↓ca,↓bI,bN,↓bo,↓a7,da,cX,aL,aR,aG,aJ,List.any_cons,List.any_nil,DX,Nat.reduceBEq,↓DN,Qa,Qb,Qc,Qd,Qe,Qf,Qg,Qh,reduceCtorEq,↓reduceIte,Na,Nb,Nc,Nk,Nf,Ng,Nh,Za,Zb,Zc,TT];refine hK _ _ ?_;clear hK K;simp only[ar,az,if_true,if_false];refine br _ _ ?_;clear br K3;refine jD (Ai @g7 (cN (q+1) (by omega))) ?_;refine⟨⟨q+1,by omega,g3,g4,g5,rfl,rfl,t3,t4,by rw[show(q+1+1)*16=(q+1)*16+16 by omega];exact t5,fR⟩,?_⟩;simp only[e7,aH,↓reduceIte];omega
  ·obtain rfl:q=10:=(by omega);refine jB (Ai @e7 (decide_eq_false (show ¬((10+1:Nat):Int)≤10 by decide))) ?_;refine jF ?_;refine aC ?_;simp only[az,ar,if_true];clear aX K2;refine hK _ _ ?_;clear hK K;rw[show(10+1)*16=176 from rfl,fE,show(List.range 176).map (Aes.ak key)=mM key from rfl] at j5;have wx:((mM key).map ai).length=176:=(by rw[List.length_map,BI]);have bT:=ck (mM key);have dM:List.take 176 ((mM key).map ai)=(mM key).map ai:=List.take_of_length_le (by omega);generalize (mM key).map ai=X at *
   refine jS (Ai @e4 (Ai @e5 (Ai @j4 (Ai @j5 (Ai @wx (Ai @dM (Ai @bT (Ai @HI @HI.symm)))))))) fun K hK=>?_;rw[bB Z X (by omega)];refine⟨by omega,hK _ _ ?_⟩;clear hK K;refine a8 ?_;refine eF (v:=.agg X) (o:=o4) (off:=0) e4 (AS.ae _ _ _) (by rw[T.Sm];decide) (by simp only[↓DN,Qa,Qb,Qc,Qd,Qe,Qf,Qg,Qh,reduceCtorEq,↓reduceIte,Na,Nb,Nc,Nk,Nf,Ng,Nh,Za,Zb,Zc,TT,wx,dM]) ?_;exact⟨_,s,AV.aB.refl _,AS.aE hle u6 _,rfl,rfl⟩
theorem P5(key:List UInt8)(hk:key.length=16)(q:Nat)(hq:q<11):List.take 16 (List.drop (q*16) ((mM key).map ai))=(Aes.kr key q).map ai:=by
 have h:=BJ key hk (fun _=>0) q 176 hq (by omega);rw[fE] at h;exact h
theorem zq(key b:List UInt8)(hk:key.length=16)(hb:b.length=16)(s:AS):
  aj prog Γ 218 [.agg (key.map ai),.agg (b.map ai)] s (fun r s'=>r=.agg ((Aes.block key b).map ai)∧s'=s):=by
 refine aa func218 rfl ntmps218 results218 (by simp) ?_;have qY:(key.map ai).length=16:=(by rw[List.length_map,hk]);have TJ:List.take 16 (key.map ai)=key.map ai:=List.take_of_length_le (by omega);have EY:(b.map ai).length=16:=(by rw[List.length_map,hb]);have xda:List.take 16 (b.map ai)=b.map ai:=List.take_of_length_le (by omega);have tn:(Aes.sb.map ai).length=256:=(by rw[List.length_map,Aes.r4]);have TL:List.take 256 (Aes.sb.map ai)=Aes.sb.map ai:=List.take_of_length_le (by omega);have Z1:=ck Aes.sb;have Ry:((mM key).map ai).length=176:=(by rw[List.length_map,BI]);have Z2:=ck (mM key);have Z3:=P5 key hk;have hex:=fun s=>Az (Γ:=Γ) key hk s;have hbx:=fun s=>Fh (Γ:=Γ) s;have had:=fun s=>uf (Γ:=Γ) b (Aes.kr key 0) hb (Aes.r7 hk 0) s;rw[show Aes.add b (Aes.kr key 0)=Aes.state key b 0 from rfl] at had;have RN:=fun q s=>zo (Γ:=Γ) (Aes.state key b q) (Aes.nB key b q) (q+1==10) s;have Q0:=fun q s=>uf (Γ:=Γ) (Aes.Ii (Aes.state key b q) (q+1==10)) (Aes.kr key (q+1)) (Aes.CX _ _) (Aes.r7 hk (q+1)) s;have iH:∀q,Aes.add (Aes.Ii (Aes.state key b q) (q+1==10)) (Aes.kr key (q+1))=Aes.state key b (q+1):=fun q=>rfl;simp only[iH] at Q0;have X1:List.take 16 ((mM key).map ai)=(Aes.kr key 0).map ai:=by
  have:=Z3 0 (by omega);rwa [Nat.zero_mul,List.drop_zero] at this
 generalize Aes.sb.map ai=Y at *
 generalize (mM key).map ai=KS at *
 refine jQ fun K hK=>?_;intro o2 qG o3 An;obtain⟨tc,Ao⟩:=AS.eW An;intro o4 CP;obtain⟨P2,Jx,u6⟩:=lu CP;rw[Rv];refine hK _ _ ?_;clear hK K;generalize mh:((s.set o2 (key.map ai)).set o3 (b.map ai)).set o4 (List.replicate 16 (bV 0))=s0 at *
 have j2:s0.aw o2=some (key.map ai):=(by rw[←mh,AS.ao _ Jx.symm,AS.ao _ tc.symm,AS.ae]);have j3:s0.aw o3=some (b.map ai):=(by rw[←mh,AS.ao _ P2.symm,AS.ae]);have j4:s0.aw o4=some (List.replicate 16 (bV 0)):=(by rw[←mh];exact AS.ae _ _ _);have hle:s.le s0:=(by rw[←mh];exact AS.aE (AS.aE (AS.aE (AS.le.refl s) qG _) Ao _) u6 _);clear mh An CP;have sA:(List.replicate 16 (bV 0)).length=16:=(by simp);generalize List.replicate 16 (bV 0)=Z at *
 refine jQ fun K hK=>?_;refine ad (hbx _) ?_;rintro r s1 ⟨rfl,rfl⟩;simp only[↓DM,bN,DX,Nz,↓DN,Qa,Qb,Qc,Qd,Qe,Qf,Qg,Qh,reduceCtorEq,↓reduceIte,Na,Nb,Nc,Nk,Nf,Ng,Nh,Za,Zb,Zc,TT,TG,tn,Z1,Nat.le_refl,List.length_replicate];intro o5 ES;rw[bB (List.replicate 256 (bV 0)) Y (by rw[tn];simp)];refine hK _ _ ?_;clear hK K;have n52:o5≠o2:=(fun e=>by rw[e,j2] at ES;cases ES);have n53:o5≠o3:=(fun e=>by rw[e,j3] at ES;cases ES);have n54:o5≠o4:=(fun e=>by rw[e,j4] at ES;cases ES);have FH:s.aw o5=none:=by
  cases h:s.aw o5 with
  |none=>rfl
  |some cs=>rw[hle.aw _ _ h] at ES;cases ES
 generalize gC:s1.set o5 Y=s2 at *
 have q2:s2.aw o2=some (key.map ai):=(by rw[←gC,AS.ao _ n52.symm];exact j2);have q3:s2.aw o3=some (b.map ai):=(by rw[←gC,AS.ao _ n53.symm];exact j3);have q4:s2.aw o4=some Z:=(by rw[←gC,AS.ao _ n54.symm];exact j4);have q5:s2.aw o5=some Y:=(by rw[←gC];exact AS.ae _ _ _);have ga:s.le s2:=(by rw[←gC];exact AS.aE hle FH _);clear gC j2 j3 j4 hle ES;refine jS (Ai @q2 (Ai @q5 (Ai @qY (Ai @TJ (Ai @tn (Ai @TL @Nat.le_refl)))))) fun K hK=>?_;refine ad (hex _) ?_;rintro r s3 ⟨rfl,rfl⟩;simp only[↓DM,bN,DX,Nz,↓DN,Qa,Qb,Qc,Qd,Qe,Qf,Qg,Qh,reduceCtorEq,↓reduceIte,Na,Nb,Nc,Nk,Nf,Ng,Nh,Za,Zb,Zc,TT,z167,Ry,Z2,Nat.le_refl,List.length_replicate];intro o6 J0;rw[bB (List.replicate 176 (bV 0)) KS (by rw[Ry];simp)];refine hK _ _ ?_;clear hK K;have n63:o6≠o3:=(fun e=>by rw[e,q3] at J0;cases J0);have n64:o6≠o4:=(fun e=>by rw[e,q4] at J0;cases J0);have Z4:o6≠o5:=(fun e=>by rw[e,q5] at J0;cases J0);have hs6:s.aw o6=none:=by
  cases h:s.aw o6 with
  |none=>rfl
  |some cs=>rw[ga.aw _ _ h] at J0;cases J0
 generalize gC:s3.set o6 KS=s4 at *
 have t3:s4.aw o3=some (b.map ai):=(by rw[←gC,AS.ao _ n63.symm];exact q3);have t4:s4.aw o4=some Z:=(by rw[←gC,AS.ao _ n64.symm];exact q4);have t5:s4.aw o5=some Y:=(by rw[←gC,AS.ao _ Z4.symm];exact q5);have t6:s4.aw o6=some KS:=(by rw[←gC];exact AS.ae _ _ _);have eM:s.le s4:=(by rw[←gC];exact AS.aE ga hs6 _);clear gC q2 q3 q4 q5 ga J0;have hB0:=ck (Aes.state key b 0);have TM:((Aes.state key b 0).map ai).length=16:=(by rw[List.length_map,Aes.nB]);refine wS fun K hK=>?_;simp only[↓DN,Qa,Qb,Qc,Qd,Qe,Qf,Qg,Qh,reduceCtorEq,↓reduceIte,Na,Nb,Nc,Nk,Nf,Ng,Nh,Za,Zb,Zc,TT,t3,t6,EY,xda,Ry,X1,show(0:Int)<((11:Nat):Int) from by decide];refine ad (had _) ?_;rintro r s5 ⟨rfl,rfl⟩;refine jN (Ai @hB0 (Ai @TM @Nat.le_refl)) ?_;intro o7 Di;rw[Rv,bB (List.replicate 16 (bV 0)) ((Aes.state key b 0).map ai) (by rw[TM];simp)];refine hK _ _ ?_;clear hK K;have n74:o7≠o4:=(fun e=>by rw[e,t4] at Di;cases Di);have Uv:o7≠o5:=(fun e=>by rw[e,t5] at Di;cases Di);have Uw:o7≠o6:=(fun e=>by rw[e,t6] at Di;cases Di);have Rz:s.aw o7=none:=by
  cases h:s.aw o7 with
  |none=>rfl
  |some cs=>rw[eM.aw _ _ h] at Di;cases Di
 generalize gC:s5.set o7 ((Aes.state key b 0).map ai)=s6 at *
 have j4:s6.aw o4=some Z:=(by rw[←gC,AS.ao _ n74.symm];exact t4);have j5:s6.aw o5=some Y:=(by rw[←gC,AS.ao _ Uv.symm];exact t5);have j6:s6.aw o6=some KS:=(by rw[←gC,AS.ao _ Uw.symm];exact t6);have j7:s6.aw o7=some ((Aes.state key b 0).map ai):=(by rw[←gC];exact AS.ae _ _ _);have ew:s.le s6:=(by rw[←gC];exact AS.aE eM Rz _);clear gC t3 t4 t5 t6 eM Di hB0 TM;refine wK fun K hK=>?_;refine jA ?_;refine ah ?_;refine aD (fun E s2=>∃q:Nat,q≤10∧E 4=.ptr o4 0∧E 5=.ptr o5 0∧E 6=.ptr o6 0∧E 7=.ptr o7 0∧E 8=.v (.int .i64 ((q+1:Nat):Int))∧s2.aw o4=some Z∧s2.aw o5=some Y∧s2.aw o6=some KS∧s2.aw o7=some ((Aes.state key b q).map ai)∧s.le s2)
  (fun E _=>match E 8 with |.v (.int _ i)=>11-i.toNat|_=>0) ?_ ?_
 ·exact⟨0,by omega,rfl,rfl,rfl,rfl,rfl,j4,j5,j6,j7,ew⟩
 ·clear j4 j5 j6 j7 ew;rintro E1 s7 ⟨q,hq,e4,e5,e6,e7,e8,j4,j5,j6,j7,hle⟩ -
  refine wK fun K2 aX=>?_;by_cases I8:q<10
  ·refine jB (Ai @e8 (decide_eq_true (show((q+1:Nat):Int)≤10 by omega))) ?_;refine jE ?_;refine ab ?_;refine aX _ _ ?_;clear aX K2;refine wK fun K3 br=>?_;refine ah ?_;have heq:(((q+1:Nat):Int)==10)=(q+1==10):=by
    by_cases h:q+1=10
    ·rw[h];rfl
    ·rw[show(q+1==10)=false by simpa using h];simp;omega
   have xdb:=RN q;have xdc:=Q0 q;have hKq:=Z3 (q+1) (by omega);have hKd:16≤(List.drop ((q+1)*16) KS).length:=(by rw[List.length_drop,Ry];omega);have S5:((Aes.state key b q).map ai).length=16:=(by rw[List.length_map,Aes.nB]);have Z5:List.take 16 ((Aes.state key b q).map ai)=(Aes.state key b q).map ai:=List.take_of_length_le (by omega);have hNl:((Aes.state key b (q+1)).map ai).length=16:=(by rw[List.length_map,Aes.nB]);have Z6:=ck (Aes.state key b (q+1));generalize hN:(Aes.state key b (q+1)).map ai=NB at *
   generalize (Aes.state key b q).map ai=SB at *
   generalize (Aes.kr key (q+1)).map ai=KQ at *
   have m0:(0:Int)≤((q+1:Nat):Int):=(by omega);have m1:((q+1:Nat):Int)<((11:Nat):Int):=(by omega);refine cD T.mixed [(o7,SB),(o5,Y),(o6,KS)] [4,8] [0,1,7] [9] (by kernel_rfl) (by simp only[aG,aJ,and_true];simp[AS.set,aH,j5,j6,j7]) ?_;intro K hK;simp only[↓bo,↓a7,da,cX,aL,aR,aG,aJ,List.any_cons,List.any_nil,List.contains_cons,List.contains_nil,Nat.reduceBEq,Bool.or_false,Bool.or_true,Bool.or_self,Bool.false_or,↓DN,Qa,Qb,Qc,Qd,Qe,Qf,Qg,Qh,reduceCtorEq,↓reduceIte,Na,Nb,Nc,Nk,Nf,Ng,Nh,Za,Zb,Zc,TT,e5,e6,e7,e8,heq,j5,j6,j7,m0,m1,tn,TL,Ry,hKq,hKd,S5,Z5,Uv,Uv.symm,Uw,Uw.symm,Z4,Z4.symm,Nat.le_refl];refine ad (xdb _) ?_;rintro r sa ⟨rfl,rfl⟩;simp only[↓ca,↓bI,bN,↓bo,↓a7,da,cX,aL,aR,aG,aJ,List.any_cons,List.any_nil,DX,Nat.reduceBEq,↓DN,Qa,Qb,Qc,Qd,Qe,Qf,Qg,Qh,reduceCtorEq,↓reduceIte,Na,Nb,Nc,Nk,Nf,Ng,Nh,Za,Zb,Zc,TT,e5,e6,e7,e8,heq,j5,j6,j7,m0,m1,tn,TL,Ry,hKq,hKd,S5,Z5,Uv,Uv.symm,Uw,Uw.symm,Z4,Z4.symm,Nat.le_refl];refine ad (xdc _) ?_;rintro r sb ⟨rfl,rfl⟩;simp only[↓ca,↓bI,bN,↓bo,↓a7,da,cX,aL,aR,aG,aJ,List.any_cons,List.any_nil,DX,Nat.reduceBEq,↓DN,Qa,Qb,Qc,Qd,Qe,Qf,Qg,Qh,reduceCtorEq,↓reduceIte,Na,Nb,Nc,Nk,Nf,Ng,Nh,Za,Zb,Zc,TT,e7,j7,S5,hNl,Z6,Nat.le_refl];refine⟨⟨j5,j6⟩,?_⟩;rw[bB SB NB (by omega)];refine hK _ _ ?_;clear hK K;simp only[ar,az,if_true,if_false];refine br _ _ ?_;clear br K3;refine jD (Ai @e8 (cN (q+1) (by omega))) ?_;refine⟨⟨q+1,by omega,e4,e5,e6,e7,rfl,by rw[AS.ao _ n74.symm];exact j4,by rw[AS.ao _ Uv.symm];exact j5,by rw[AS.ao _ Uw.symm];exact j6,by rw[hN];exact AS.ae _ _ _,AS.aE hle Rz _⟩,?_⟩;simp only[e8,aH,↓reduceIte];omega
  ·obtain rfl:q=10:=(by omega);refine jB (Ai @e8 (decide_eq_false (show ¬((10+1:Nat):Int)≤10 by decide))) ?_;refine jF ?_;refine aC ?_;simp only[az,ar,if_true];clear aX K2;refine hK _ _ ?_;clear hK K;rw[show Aes.state key b 10=Aes.block key b from rfl] at j7;have wx:((Aes.block key b).map ai).length=16:=(by rw[List.length_map,Aes.BC]);have bT:=ck (Aes.block key b);have dM:List.take 16 ((Aes.block key b).map ai)=(Aes.block key b).map ai:=List.take_of_length_le (by omega);generalize (Aes.block key b).map ai=X at *
   refine jS (Ai @e4 (Ai @e7 (Ai @j4 (Ai @j7 (Ai @wx (Ai @dM (Ai @bT (Ai @n74 (Ai @n74.symm @Nat.le_refl))))))))) fun K hK=>?_;rw[bB Z X (by omega)];refine⟨by omega,hK _ _ ?_⟩;clear hK K;refine a8 ?_;refine eF (v:=.agg X) (o:=o4) (off:=0) e4 (AS.ae _ _ _) (by rw[T.KU];decide) (by simp only[↓DN,Qa,Qb,Qc,Qd,Qe,Qf,Qg,Qh,reduceCtorEq,↓reduceIte,Na,Nb,Nc,Nk,Nf,Ng,Nh,Za,Zb,Zc,TT,wx,dM]) ?_;exact⟨_,s,AV.aB.refl _,AS.aE hle u6 _,rfl,rfl⟩
abbrev nV(n:Nat):AV:=.v (.int .i64 (n:Int))
def xiy(s:AS)(cs:List AV)(r:AV)(s':AS):Prop:=
  s.le s'∧((cs=[]∧r=.v (.slice none 0 0))∨∃t e,s.own t=none∧s'.own t=some e∧r=.sl 1 cs.length cs (.own t e))
theorem Z7:∀x:AV,List.replicate 4 x=[x,x,x,x]:=fun _=>rfl
def mm(x:UInt8)(j:Nat):UInt8:=if j=0 then Aes.NK x else if j=1 then Aes.NK x ^^^ x else x
def acc(c:Nat→UInt8)(row:Nat):Nat→UInt8
  |0=>0
  |k+1=>acc c row k ^^^ mm (c k) ((k+4-row)%4)
end Go.Proofs.YtbiefppedlodiaaGreatDoor
namespace Go.AM
def PP:Nat:=2305843009213693951
theorem M5(n:Nat):n &&& 2305843009213693951=n%2305843009213693952:=by
  have:=Nat.and_two_pow_sub_one_eq_mod n 61;simpa using this
def C5(n:Int):Int:=
  let m:=ec .u64 (mg .u64 n 2305843009213693951) (eJ .u64 n 61)
  if m≥2305843009213693951 then di .u64 m 2305843009213693951 else m
theorem M6(n:Nat)(h:n<2^64):ec .u64 (mg .u64 (n:Int) 2305843009213693951) (eJ .u64 (n:Int) 61)=((n%2305843009213693952+n/2305843009213693952:Nat):Int):=by
  have e1:mg .u64 (n:Int) 2305843009213693951=((n &&& 2305843009213693951:Nat):Int):=rB (k:=.u64) rfl n 2305843009213693951 h (by decide);have e2:eJ .u64 (n:Int) 61=((n/2^61:Nat):Int):=by
    have:=hJ (k:=.u64) n 61;simpa[IntKind.bits] using this
  rw[e1,e2,uv rfl,M5,show IntKind.u64.bits=64 from rfl];exact congrArg (fun x:Nat=>(x:Int)) (by omega)
theorem Hj(n:Nat)(h:n<2^64):C5 n=((n%PP:Nat):Int):=by
  unfold C5 PP;rw[M6 n h];simp only;split
  · rename_i hc;have Qj:2305843009213693951≤n%2305843009213693952+n/2305843009213693952:=(by omega);have:=AQ (k:=.u64) rfl (n%2305843009213693952+n/2305843009213693952) 2305843009213693951 Qj (by simp only[IntKind.bits];omega);rw[show(2305843009213693951:Int)=((2305843009213693951:Nat):Int) from rfl,this];exact congrArg (fun x:Nat=>(x:Int)) (by omega)
  · rename_i hc;exact congrArg (fun x:Nat=>(x:Int)) (by omega)
theorem M7(x1 x0 y1 y0:Nat)(h1:x1<4294967296)(h2:x0<4294967296)(h3:y1<4294967296)(h4:y0<4294967296):
    x1*y1+(x1*y0+x0*y0/4294967296)/4294967296+((x1*y0+x0*y0/4294967296)%4294967296+x0*y1)/4294967296=(x1*4294967296+x0)*(y1*4294967296+y0)/18446744073709551616:=by
  have e:(x1*4294967296+x0)*(y1*4294967296+y0)=x1*y1*18446744073709551616+(x1*y0+x0*y1)*4294967296+x0*y0:=by
    simp only[Nat.add_mul,Nat.mul_add];have a1:x1*4294967296*(y1*4294967296)=x1*y1*18446744073709551616:=by
      rw[Nat.mul_mul_mul_comm]
    have a2:x0*(y1*4294967296)=x0*y1*4294967296:=(by rw[Nat.mul_assoc]);have a3:x1*4294967296*y0=x1*y0*4294967296:=(by rw[Nat.mul_right_comm]);omega
  rw[e];generalize x1*y1=A;generalize x1*y0=B;generalize x0*y1=C;generalize x0*y0=D;omega
theorem ug{a b:Nat}(ha:a<4294967296)(hb:b<4294967296):a*b≤18446744065119617025:=by
  have :a*b≤4294967295*4294967295:=Nat.mul_le_mul (by omega) (by omega);omega
theorem TP(n:Nat):n &&& 4294967295=n%4294967296:=by
  have:=Nat.and_two_pow_sub_one_eq_mod n 32;simpa using this
theorem vj(n:Nat)(h:n<2^64):mg .u64 (n:Int) 4294967295=((n%4294967296:Nat):Int):=by
  have:=rB (k:=.u64) rfl n 4294967295 h (by decide);rw[TP] at this;exact this
theorem nD(n:Nat):eJ .u64 (n:Int) 32=((n/4294967296:Nat):Int):=by
  have:=hJ (k:=.u64) n 32;simpa[IntKind.bits] using this
theorem oz(a b:Nat)(h:a+b<2^64):ec .u64 (a:Int) b=((a+b:Nat):Int):=by
  rw[uv rfl];simp only[IntKind.bits];rw[Nat.mod_eq_of_lt h]
theorem xh(a b:Nat)(h:a*b<2^64):gO .u64 (a:Int) b=((a*b:Nat):Int):=by
  rw[BZ rfl];simp only[IntKind.bits];rw[Nat.mod_eq_of_lt h]
theorem M8(a b:Nat):gO .u64 (a:Int) b=((a*b%18446744073709551616:Nat):Int):=by
  rw[BZ rfl];rfl
theorem P6(q:Nat)(h:q<2^122):ec .u64 (mg .u64 ((q%18446744073709551616:Nat):Int) 2305843009213693951) (FJ .u64 (kj .u64 ((q/18446744073709551616:Nat):Int) 3) (eJ .u64 ((q%18446744073709551616:Nat):Int) 61))=
    ((q%2305843009213693952+q/2305843009213693952:Nat):Int):=by
  have e1:=rB (k:=.u64) rfl (q%18446744073709551616) 2305843009213693951 (by simp only[IntKind.bits];omega) (by decide);have e2:eJ .u64 ((q%18446744073709551616:Nat):Int) 61=((q%18446744073709551616/2305843009213693952:Nat):Int):=by
    have:=hJ (k:=.u64) (q%18446744073709551616) 61;simpa[IntKind.bits] using this
  have e3:kj .u64 ((q/18446744073709551616:Nat):Int) 3=((8*(q/18446744073709551616):Nat):Int):=by
    have:=rC (k:=.u64) rfl (q/18446744073709551616) 3;rw[show(3:Int)=((3:Nat):Int) from rfl,this,show min 3 IntKind.u64.bits=3 from rfl,show IntKind.u64.bits=64 from rfl];exact congrArg (fun x:Nat=>(x:Int)) (by omega)
  rw[e2,e3,show(2305843009213693951:Int)=((2305843009213693951:Nat):Int) from rfl,e1,M5,AR rfl _ _ (by simp only[IntKind.bits];omega) (by simp only[IntKind.bits];omega)];have e4:8*(q/18446744073709551616) ||| q%18446744073709551616/2305843009213693952=8*(q/18446744073709551616)+q%18446744073709551616/2305843009213693952:=by
    have:=Nat.two_pow_add_eq_or_of_lt (i:=3) (b:=q%18446744073709551616/2305843009213693952) (by omega) (q/18446744073709551616);simpa using this.symm
  rw[e4,uv rfl,show IntKind.u64.bits=64 from rfl];exact congrArg (fun x:Nat=>(x:Int)) (by omega)
theorem HP:PP<2^61:=by decide
theorem dc(n:Nat):n%PP<PP:=Nat.mod_lt _ (by decide)
theorem M9(a b:Nat):(a%PP)*(b%PP)<2^122:=by
  have h1:=dc a;have h2:=dc b;have h3:=HP;calc (a%PP)*(b%PP)<2^61*2^61:=Nat.mul_lt_mul'' (by omega) (by omega)
    _=2^122:=by decide
theorem JM(q:Nat):(q%2305843009213693952+q/2305843009213693952)%PP=q%PP:=by unfold PP;omega
end Go.AM
namespace Go.Proofs.YtbiefppedlodiaaGreatDoor
open Go Go.AM Go.Proofs Tryz
variable{Γ:Nat→List AV}
theorem Fi(ax:List UInt8)(h:ax.length=16):Aes.first ax<4294967296:=by
  have key:∀(l:List UInt8)(x:Nat),l.foldl (fun x b=>x*256+b.toNat) x<(x+1)*256^l.length:=by
    intro l;induction l with
    |nil=>intro x;simp
    |cons b l ih=>
      intro x;rw[List.foldl_cons];have h1:=ih (x*256+b.toNat);have hb:=b.toNat_lt;have h2:(x*256+b.toNat+1)*256^l.length≤((x+1)*256)*256^l.length:=Nat.mul_le_mul_right _ (by omega);rw[List.length_cons,Nat.pow_succ,Nat.mul_comm (256^l.length),←Nat.mul_assoc];omega
  have:=key (ax.drop 12) 0;rw[List.length_drop,h] at this;exact this
theorem P7(ax:List UInt8)(h:ax.length=16)(i:Nat):(Aes.Fb ax i).length=16:=by simp[Aes.Fb,h]
theorem TQ(key ax beside masked:List UInt8):Aes.tag key ax beside masked=(Mac.tag (key.drop 16) (be 4 beside.length++(beside++(ax++masked)))).take 16:=rfl
def iq(key ax beside z:List UInt8):List UInt8:=if z.length<16 then[] else if Aes.tag key ax beside (z.take (z.length-16))=z.drop (z.length-16) then Aes.mask key ax (z.take (z.length-16)) else[]
def ir(key ax beside z:List UInt8):Nat:=if z.length<16 then 10 else if Aes.tag key ax beside (z.take (z.length-16))=z.drop (z.length-16) then 0 else 14
theorem Hk(l:List UInt8)(s:AS)(h0:l.length≠0)(hl:l.length≤2^45):aj prog Γ 90 [al l .no] s (fun r s'=>∃o cap,s.aw o=none∧r=.gR o 0 1 l.length cap∧s'=s.set o (l.map ai)):=by
 refine aa func90 rfl ntmps90 results90 (by simp) ?_;unfold al;refine jA ?_;refine wK fun K hK=>?_;refine jB @and_false ?_;refine jF ?_;refine ab ?_;refine hK _ _ ?_;clear hK K;refine zI (x:=.tmp 5) (y:=.tmp 6) (T:=23) (xT:=23) (e:=5) (z:=[.v (.int .u8 0)]) (d:=7) rfl rfl rfl (by decide) underlying23 (by simp only[↓DN,Qa,Qb,Qc,Qd,Qe,Qf,Qg,Qh,reduceCtorEq,↓reduceIte,Na,Nb,Nc,Nk,Nf,Ng,Nh,Za,Zb,Zc,TT];try rfl) (by simp only[↓DN,Qa,Qb,Qc,Qd,Qe,Qf,Qg,Qh,reduceCtorEq,↓reduceIte,Na,Nb,Nc,Nk,Nf,Ng,Nh,Za,Zb,Zc,TT];try rfl) (by rw[T.c5];decide) (by rw[T.c5];rfl) ?_;simp only[↓DN,Qa,Qb,Qc,Qd,Qe,Qf,Qg,Qh,reduceCtorEq,↓reduceIte,Na,Nb,Nc,Nk,Nf,Ng,Nh,Za,Zb,Zc,TT,gX];refine⟨_,_,rfl,h0,by omega,by omega,?_⟩;intro ob cap oi gu;refine jI ?_;refine⟨_,_,AV.aB.refl _,AS.le.refl _,ob,cap,oi,rfl,?_⟩;try rfl
theorem AA(l:List UInt8)(s:AS)(h0:l.length≠0)(hl:l.length≤2^45):aj prog Γ 90 [al l .any] s (fun r s'=>∃o cap,s.aw o=none∧r=.gR o 0 1 l.length cap∧s'=s.set o (l.map ai)):=
 aj.any (pre:=[]) (post:=[]) (fun e=>absurd (by rw[e];rfl) h0) (Hk l s h0 hl)
theorem si(F G:Nat→UInt8)(N i:Nat)(h:N≤i):bg F G N i=bg F G N N:=by
 unfold bg;apply List.map_congr_left;intro n hn;have:=List.mem_range.1 hn;rw[if_pos (by omega),if_pos this]
theorem xdd(l:List UInt8)(h:l.length=4):(iU 4 (l,0)).1=hM l:=by
 have e:List.take 4 l=l:=List.take_of_length_le (by omega);simp[iU,dY,h,e]
theorem P8(i:Nat)(h:i<2^40):gO .i64 16 (i:Int)=((16*i:Nat):Int):=by
 rw[dI (by omega)];omega
theorem set_tail(ax tl ys:List UInt8)(hn:ax.length=16)(ht:tl.length=4)(hy:ys.length=4):bn ((ax.take 12++tl).map ai) 12 (ys.map ai)=(ax.take 12++ys).map ai:=by
 have h1:(ax.take 12).length=12:=(by simp[hn]);generalize ax.take 12=a at *
 rw[rY _ _ _ (by rw[List.length_map,List.length_map,List.length_append];omega),List.map_append,List.map_append,List.take_append_of_le_length (by rw[List.length_map];omega),List.take_of_length_le (by rw[List.length_map];omega),List.drop_eq_nil_of_le (by rw[List.length_append,List.length_map,List.length_map,List.length_map];omega),List.append_nil]
theorem wR(key ax text:List UInt8)(hk:key.length=48)(hn:ax.length=16)(h0:text.length≠0)(ht:text.length≤2^30)(s:AS):
  aj prog Γ 189 [al key .any,al ax .any,al text .any] s (fun r s'=>r=al (Aes.mask key ax text) .any∧s'=s):=by
 refine vE func189 rfl ntmps189 results189 (by simp) ?_;have M0:(key.take 16).length=16:=(by simp[hk]);have Nd:(List.take 16 (key.map ai)).length=16:=(by simp[hk]);have Ni:(List.take 16 (key.map ai)).all AV.one=true:=(by rw[←List.map_take];exact ck _);have FC:(ax.map ai).length=16:=(by rw[List.length_map,hn]);have Ss:=ck ax;have Nj:List.take 16 (ax.map ai)=ax.map ai:=List.take_of_length_le (by omega);have pR:=Fi ax hn;unfold al;rw[hk,hn];refine dp ?_;intro K1 kh;refine jC ?_;simp only[az];refine kh _ _ ?_;clear kh K1;refine dp ?_;intro K1 kh;refine jT fun K hK=>?_;intro o7 Di o8 Hi;obtain⟨TR,JN⟩:=AS.eW Hi;rw[Rv];refine hK _ _ ?_;clear hK K;simp only[az];refine kh _ _ ?_;clear kh K1;generalize mh:(s.set o7 (List.replicate 16 (bV 0))).set o8 (List.replicate 16 (bV 0))=s0 at *
 have j7:s0.aw o7=some (List.replicate 16 (bV 0)):=(by rw[←mh,AS.ao _ TR.symm,AS.ae]);have j8:s0.aw o8=some (List.replicate 16 (bV 0)):=(by rw[←mh];exact AS.ae _ _ _);have hle:s.le s0:=(by rw[←mh];exact AS.aE (AS.aE (AS.le.refl s) Di _) JN _);clear mh Hi;have sA:(List.replicate 16 (bV 0)).length=16:=(by simp);generalize hZ:List.replicate 16 (bV 0)=Z at *
 refine dp ?_;intro K1 kh;refine jU (Ai @j7 (Ai @sA (Ai @Nd (Ai @Ni (Ai (show(0:Int)≤((16:Nat):Int) from by decide) (Ai (show((16:Nat):Int)≤((16:Nat):Int) from by decide) (Ai (show ¬(((16:Nat):Int)=0) from by decide) (show min 48 16=16 from rfl)))))))) fun K hK=>?_;rw[bB Z ((key.take 16).map ai) (by rw[sA,List.length_map,M0])];refine hK _ _ ?_;clear hK K;simp only[az];refine kh _ _ ?_;clear kh K1;generalize gC:s0.set o7 ((key.take 16).map ai)=s1 at *
 have q7:s1.aw o7=some ((key.take 16).map ai):=(by rw[←gC];exact AS.ae _ _ _);have q8:s1.aw o8=some Z:=(by rw[←gC,AS.ao _ TR];exact j8);have pc:s.le s1:=(by rw[←gC];exact AS.aE hle Di _);clear gC j7 j8 hle;refine dp ?_;intro K1 kh;refine jU (Ai @q8 (Ai @sA (Ai @FC (Ai @Ss (Ai @Nj (Ai (show(0:Int)≤((16:Nat):Int) from by decide) (Ai (show((16:Nat):Int)≤((16:Nat):Int) from by decide) (Ai (show ¬(((16:Nat):Int)=0) from by decide) (Ai (show min 48 16=16 from rfl) (show min 16 16=16 from rfl)))))))))) fun K hK=>?_;rw[bB Z (ax.map ai) (by rw[sA,FC])];refine hK _ _ ?_;clear hK K;simp only[az];refine kh _ _ ?_;clear kh K1;generalize ng:s1.set o8 (ax.map ai)=s2 at *
 have j7:s2.aw o7=some ((key.take 16).map ai):=(by rw[←ng,AS.ao _ TR.symm];exact q7);have j8:s2.aw o8=some (ax.map ai):=(by rw[←ng];exact AS.ae _ _ _);have ga:s.le s2:=(by rw[←ng];exact AS.aE pc JN _);clear ng q7 q8 pc;have Nl:(ax.drop 12).length=4:=(by simp[hn]);have gP:=fun s=>rU (Γ:=Γ) (ax.drop 12) s (by omega);unfold al at gP;rw[Nl] at gP;refine dp ?_;intro K1 kh;refine wE fun K hK=>?_;simp only[↓DN,Qa,Qb,Qc,Qd,Qe,Qf,Qg,Qh,reduceCtorEq,↓reduceIte,Na,Nb,Nc,Nk,Nf,Ng,Nh,Za,Zb,Zc,TT,Nj,hn,show(0:Int)≤12 from by decide,show(12:Int)≤((16:Nat):Int) from by decide,show((16:Nat):Int)≤((16:Nat):Int) from by decide];refine ad (gP _) ?_;rintro r s3 ⟨p,rfl,hp⟩;refine jR hK ?_;clear hK K;simp only[az];refine kh _ _ ?_;clear kh K1;refine dp ?_;intro K1 kh;refine jT fun K hK=>?_;refine ad (tL s2 s3 p _ hp) ?_;rintro r s4 ⟨rfl,FA⟩;rw[xdd _ Nl,show hM (ax.drop 12)=Aes.first ax from rfl];have Uk:cG .u32 ((Aes.first ax:Nat):Int)=((Aes.first ax:Nat):Int):=by
  rw[gE rfl];simp only[IntKind.bits];rw[Nat.mod_eq_of_lt (by omega)]
 refine jV @Uk hK ?_;clear hK K;have q7:=FA.le.aw _ _ j7;have q8:=FA.le.aw _ _ j8;have eM:s.le s4:=AS.le.trans ga FA.le;clear hp FA j7 j8 ga gP Uk;simp only[az];refine kh _ _ ?_;clear kh K1;refine dp ?_;intro K1 kh;refine jT fun K hK=>?_;refine ad (AA text s4 h0 (by omega)) ?_;rintro r s5 ⟨se,cap,Hl,rfl,rfl⟩;refine jR hK ?_;clear hK K;simp only[az];refine kh _ _ ?_;clear kh K1;have n117:se≠o7:=(fun e=>by rw[e,q7] at Hl;cases Hl);have n118:se≠o8:=(fun e=>by rw[e,q8] at Hl;cases Hl);have TU:s.aw se=none:=by
  cases h:s.aw se with
  |none=>rfl
  |some cs=>rw[eM.aw _ _ h] at Hl;cases Hl
 have RA:bg (fun n=>(Aes.mask key ax text).getD n 0) (fun n=>text.getD n 0) text.length 0=text.map ai:=(by rw[sf,l9 rfl]);rw[←RA];generalize FH:s4.set se (bg (fun n=>(Aes.mask key ax text).getD n 0) (fun n=>text.getD n 0) text.length 0)=s5 at *
 have j7:s5.aw o7=some ((key.take 16).map ai):=(by rw[←FH,AS.ao _ n117.symm];exact q7);have j8:s5.aw o8=some ((ax.take 12++ax.drop 12).map ai):=(by rw[←FH,AS.ao _ n118.symm,List.take_append_drop];exact q8);have Hm:s5.aw se=some (bg (fun n=>(Aes.mask key ax text).getD n 0) (fun n=>text.getD n 0) text.length 0):=(by rw[←FH];exact AS.ae _ _ _);have fR:s.le s5:=(by rw[←FH];exact AS.aE eM TU _);clear FH q7 q8 eM Hl RA;have c1:ec .i64 (text.length:Int) 16=((text.length+16:Nat):Int):=fU text.length 16 (by omega);have c2:di .i64 ((text.length+16:Nat):Int) 1=((text.length+15:Nat):Int):=gF (text.length+16) 1 (by omega) (by omega);have c3:kK .i64 ((text.length+15:Nat):Int) 16=(((text.length+15)/16:Nat):Int):=by
  have :kK .i64 ((text.length+15:Nat):Int) ((16:Nat):Int)=(((text.length+15)/16:Nat):Int):=by
   rw[kK];have e:Int.tdiv ((text.length+15:Nat):Int) ((16:Nat):Int)=(((text.length+15)/16:Nat):Int):=(Int.ofNat_tdiv _ 16).symm;rw[e,IntWalk.i64_in _ (by omega)]
  exact this
 have hcn:16*((text.length+15)/16)≥text.length:=(by omega);have xiz:16*((text.length+15)/16)<text.length+16:=(by omega);generalize (text.length+15)/16=RB at *
 refine dp ?_;intro K1 kh;refine jB (Ai @c1 (Ai @c2 (Ai @c3 @sg))) ?_;clear c1 c2 c3;refine ah ?_;refine aD (fun E s6=>∃(j:Nat)(tl:List UInt8),j≤RB∧tl.length=4∧E 7=.ptr o7 0∧E 8=.ptr o8 0∧E 10=.v (.int .u32 (Aes.first ax:Nat))∧E 11=.gR se 0 1 text.length cap∧E 36=nV RB∧E 37=nV j∧s6.aw o7=some ((key.take 16).map ai)∧s6.aw o8=some ((ax.take 12++tl).map ai)∧s6.aw se=some (bg (fun n=>(Aes.mask key ax text).getD n 0) (fun n=>text.getD n 0) text.length (16*j))∧s.le s6)
  (fun E _=>match E 37 with |.v (.int _ i)=>RB-i.toNat|_=>0) ?_ ?_
 ·exact⟨0,ax.drop 12,by omega,Nl,rfl,rfl,rfl,rfl,rfl,rfl,j7,j8,Hm,fR⟩
 ·clear j7 j8 Hm fR;rintro E1 s6 ⟨j,tl,hj,me,e7,e8,Un,wA,Z8,TV,j7,j8,Hm,ew⟩ -
  by_cases kJ:j<RB
  ·refine jB (Ai @Z8 (Ai @TV (decide_eq_true (show(j:Int)<(RB:Int) by omega)))) ?_;refine wK fun K2 aX=>?_;refine jE ?_;refine ab ?_;refine aX _ _ ?_;clear aX K2;refine wK fun K3 br=>?_;refine ah ?_;refine jB @TV ?_;have w1:cG .u32 ((j:Nat):Int)=((j:Nat):Int):=by
    rw[gE rfl];simp only[IntKind.bits];rw[Nat.mod_eq_of_lt (by omega)]
   have w2:=tQ (Aes.first ax) j;rw[show Sha.ei (Aes.first ax) j=(Aes.first ax+j)%4294967296 from rfl] at w2;refine jB (Ai @Un (Ai @w1 @w2)) ?_;have TW:(ax.take 12++be 4 ((Aes.first ax+j)%4294967296))=Aes.Fb ax j:=rfl;have Ny:(be 4 ((Aes.first ax+j)%4294967296)).map ai=[bV (UInt8.ofNat ((Aes.first ax+j)%4294967296/16777216)),bV (UInt8.ofNat ((Aes.first ax+j)%4294967296/65536)),bV (UInt8.ofNat ((Aes.first ax+j)%4294967296/256)),bV (UInt8.ofNat ((Aes.first ax+j)%4294967296))]:=(by simp[be,ai]);have cr:=set_tail ax tl (be 4 ((Aes.first ax+j)%4294967296)) hn me (by simp);rw[TW,Ny] at cr;have NH:((ax.take 12++tl).map ai).length=16:=(by simp[hn,me]);have KN:=uZ ((Aes.first ax+j)%4294967296) 24 (by decide);have JW:=uZ ((Aes.first ax+j)%4294967296) 16 (by decide);have s8':=uZ ((Aes.first ax+j)%4294967296) 8 (by decide);generalize (Aes.first ax+j)%4294967296=w at *
   generalize hO:(ax.take 12++tl).map ai=O at *
   refine jS (Ai @e8 (Ai @j8 (Ai @KN (Ai @JW (Ai @s8' (Ai (show eJ .u32 (w:Int) 24=((w/2^24:Nat):Int) from KN) (Ai (show eJ .u32 (w:Int) 16=((w/2^16:Nat):Int) from JW) (Ai (show eJ .u32 (w:Int) 8=((w/2^8:Nat):Int) from s8') (Ai @MU (Ai @Z7 (Ai @cr (Ai @NH (Ai (show(12:Int)≤((16:Nat):Int) from by decide) (Ai (show((16:Nat):Int)≤((16:Nat):Int) from by decide) (Ai (show ¬(((16:Nat):Int)=12) from by decide) (show min 4 4=4 from rfl)))))))))))))))) fun K hK=>?_;first
    |refine hK _ _ ?_
    |refine⟨by omega,hK _ _ ?_⟩
   clear hK K;generalize Rz:s6.set o8 ((Aes.Fb ax j).map ai)=s7 at *
   have q7:s7.aw o7=some ((key.take 16).map ai):=(by rw[←Rz,AS.ao _ TR.symm];exact j7);have q8:s7.aw o8=some ((Aes.Fb ax j).map ai):=(by rw[←Rz];exact AS.ae _ _ _);have NL:s7.aw se=some (bg (fun n=>(Aes.mask key ax text).getD n 0) (fun n=>text.getD n 0) text.length (16*j)):=(by rw[←Rz,AS.ao _ n118];exact Hm);have oq:s.le s7:=(by rw[←Rz];exact AS.aE ew JN _);clear Rz j7 j8 Hm ew cr Ny NH;have iF:=P7 ax hn j;have Po:=fun s=>zq (Γ:=Γ) (key.take 16) (Aes.Fb ax j) M0 iF s;have EY:=Aes.BC (key.take 16) (Aes.Fb ax j);have Ry:((key.take 16).map ai).length=16:=(by rw[List.length_map,M0]);have hKt:List.take 16 ((key.take 16).map ai)=(key.take 16).map ai:=List.take_of_length_le (by omega);have hCl:((Aes.Fb ax j).map ai).length=16:=(by rw[List.length_map,iF]);have hCt:List.take 16 ((Aes.Fb ax j).map ai)=(Aes.Fb ax j).map ai:=List.take_of_length_le (by omega);have T4:=ck (Aes.block (key.take 16) (Aes.Fb ax j));have P9:((Aes.block (key.take 16) (Aes.Fb ax j)).map ai).length=16:=(by rw[List.length_map,EY]);have hBt:List.take 16 ((Aes.block (key.take 16) (Aes.Fb ax j)).map ai)=(Aes.block (key.take 16) (Aes.Fb ax j)).map ai:=List.take_of_length_le (by omega);have hmB:∀k,k<16→Aes.Ik key ax (16*j+k)=(Aes.block (key.take 16) (Aes.Fb ax j)).getD k 0:=by
    intro k hk;rw[Aes.Ik,show(16*j+k)/16=j by omega,show(16*j+k)%16=k by omega]
   have Yd:(be 4 w).length=4:=(by simp);rw[←TW] at q8;generalize hBK:Aes.block (key.take 16) (Aes.Fb ax j)=bk at *
   rw[←TW] at hCl hCt Po;generalize hKK:(key.take 16).map ai=KK at *
   generalize hCC:(ax.take 12++be 4 w).map ai=CC at *
   refine jS (Ai @e7 (Ai @e8 (Ai @q7 (Ai @q8 (Ai @Ry (Ai @hKt (Ai @hCl (Ai @hCt @Nat.le_refl)))))))) fun K hK=>?_;refine ad (Po _) ?_;rintro r s8 ⟨rfl,rfl⟩;refine jN (Ai @P9 (Ai @T4 @Nat.le_refl)) ?_;intro BD C6;rw[Rv,bB (List.replicate 16 (bV 0)) (bk.map ai) (by rw[P9];simp)];refine hK _ _ ?_;clear hK K;have n147:BD≠o7:=(fun e=>by rw[e,q7] at C6;cases C6);have n148:BD≠o8:=(fun e=>by rw[e,q8] at C6;cases C6);have MC:BD≠se:=(fun e=>by rw[e,NL] at C6;cases C6);have xde:s.aw BD=none:=by
    cases h:s.aw BD with
    |none=>rfl
    |some cs=>rw[oq.aw _ _ h] at C6;cases C6
   generalize NN:s8.set BD (bk.map ai)=s9 at *
   have j7:s9.aw o7=some KK:=(by rw[←NN,AS.ao _ n147.symm];exact q7);have j8:s9.aw o8=some CC:=(by rw[←NN,AS.ao _ n148.symm];exact q8);have Hm:s9.aw se=some (bg (fun n=>(Aes.mask key ax text).getD n 0) (fun n=>text.getD n 0) text.length (16*j)):=(by rw[←NN,AS.ao _ MC.symm];exact NL);have j14:s9.aw BD=some (bk.map ai):=(by rw[←NN];exact AS.ae _ _ _);have JO:s.le s9:=(by rw[←NN];exact AS.aE oq xde _);clear NN q7 q8 NL oq C6 Po T4;refine jB (Ai @j14 (Ai @P9 (Ai @hBt @Nat.le_refl))) ?_;refine ah ?_;refine aD (fun E ON=>∃k:Nat,k≤16∧E 7=.ptr o7 0∧E 8=.ptr o8 0∧E 10=.v (.int .u32 (Aes.first ax:Nat))∧E 11=.gR se 0 1 text.length cap∧E 12=nV j∧E 36=nV RB∧E 37=nV j∧E 61=.agg (bk.map ai)∧E 62=nV k∧ON.aw o7=some KK∧ON.aw o8=some CC∧ON.aw se=some (bg (fun n=>(Aes.mask key ax text).getD n 0) (fun n=>text.getD n 0) text.length (16*j+k))∧s.le ON)
    (fun E _=>match E 62 with |.v (.int _ i)=>16-i.toNat|_=>0) ?_ ?_
   ·exact⟨0,by omega,e7,e8,Un,wA,rfl,Z8,TV,rfl,rfl,j7,j8,Hm,JO⟩
   ·clear j7 j8 Hm j14 JO;rintro E2 ON ⟨k,tj,g7,g8,g10,g11,g12,Q7,NC,SH,LA,j7,j8,Hm,JO⟩ -
    by_cases RV:k<16
    ·refine jB (Ai @LA (decide_eq_true (show(k:Int)<16 by omega))) ?_;refine wK fun K5 jZ=>?_;refine jE ?_;refine ab ?_;refine jZ _ _ ?_;clear jZ K5;refine wK fun K6 kC=>?_;refine ah ?_;have hbi:(bk.map ai)[k]? =some (ai (bk.getD k 0)):=(by simp[List.getElem?_eq_getElem (show k<bk.length by omega)]);have Of:=dt (l:=bk) k (by omega);have Nr:=hmB k RV;have m1:(0:Int)≤(k:Int):=(by omega);have m2:(k:Int)<((16:Nat):Int):=(by omega);have a0:=P8 j (by omega);have a1:=fU (16*j) k (by omega);have vH:∀(E3:Env)(OO:AS),E3 7=.ptr o7 0→E3 8=.ptr o8 0→E3 10=.v (.int .u32 (Aes.first ax:Nat))→E3 11=.gR se 0 1 text.length cap→E3 12=nV j→E3 36=nV RB→E3 37=nV j→E3 61=.agg (bk.map ai)→E3 62=nV k→
       OO.aw o7=some KK→OO.aw o8=some CC→OO.aw se=some (bg (fun n=>(Aes.mask key ax text).getD n 0) (fun n=>text.getD n 0) text.length (16*j+k+1))→s.le OO→K6 E3 OO:=by
      intro E3 OO f7 f8 f10 f11 f12 f36 f37 f61 f62 t7 t8 t11 Z9;refine kC _ _ ?_;clear kC K6;refine jD (Ai @f62 (cN k (by omega))) ?_;refine⟨⟨k+1,by omega,f7,f8,f10,f11,f12,f36,f37,f61,rfl,t7,t8,by rw[show 16*j+(k+1)=16*j+k+1 from rfl];exact t11,Z9⟩,?_⟩;simp only[LA,aH,↓reduceIte];omega
     clear kC;refine wS fun K hK=>?_;simp only[↓DN,Qa,Qb,Qc,Qd,Qe,Qf,Qg,Qh,reduceCtorEq,↓reduceIte,Na,Nb,Nc,Nk,Nf,Ng,Nh,Za,Zb,Zc,TT,SH,LA,m1,m2,hbi,Of,P9,ai];refine hK _ _ ?_;clear hK K;refine jB (Ai @g12 (Ai @a0 @a1)) ?_;by_cases y8:16*j+k<text.length
     ·have cr:=dW (fun n=>(Aes.mask key ax text).getD n 0) (fun n=>text.getD n 0) text.length (16*j+k) _ rfl;have Qz:=ou (fun n=>(Aes.mask key ax text).getD n 0) (fun n=>text.getD n 0) text.length (16*j+k) (16*j+k) y8;rw[if_neg (Nat.lt_irrefl _)] at Qz;rw[Aes.zc key ax text (16*j+k) y8,Nr] at cr;have hlen:=dq (fun n=>(Aes.mask key ax text).getD n 0) (fun n=>text.getD n 0) text.length (16*j+k);generalize Hg:bg (fun n=>(Aes.mask key ax text).getD n 0) (fun n=>text.getD n 0) text.length (16*j+k+1)=R' at *
      generalize bg (fun n=>(Aes.mask key ax text).getD n 0) (fun n=>text.getD n 0) text.length (16*j+k)=R at *
      generalize text.getD (16*j+k) 0=x at *
      generalize bk.getD k 0=y at *
      have m3:(0:Int)≤((16*j+k:Nat):Int):=(by omega);have m4:((16*j+k:Nat):Int)<(text.length:Int):=(by omega);have m5:16*j+k+1≤text.length:=(by omega);refine jB (Ai @g11 (decide_eq_true m4)) ?_;refine jE ?_;refine wE fun K hK=>?_;simp only[↓DN,Qa,Qb,Qc,Qd,Qe,Qf,Qg,Qh,reduceCtorEq,↓reduceIte,Na,Nb,Nc,Nk,Nf,Ng,Nh,Za,Zb,Zc,TT,g11,m3,m4,m5,y8,Hm,Qz,ai,oU,cr,hlen];refine hK _ _ ?_;clear hK K;simp only[ar,az,if_true,if_false];exact vH _ _ g7 g8 g10 g11 g12 Q7 NC SH LA (by rw[AS.ao _ n117.symm];exact j7) (by rw[AS.ao _ n118.symm];exact j8) (AS.ae _ _ _) (AS.aE JO TU _)
     ·refine jB (Ai @g11 (decide_eq_false (show ¬((16*j+k:Nat):Int)<(text.length:Int) by omega))) ?_;refine jF ?_;refine ab ?_;simp only[ar,az,if_true,if_false];exact vH _ _ g7 g8 g10 g11 g12 Q7 NC SH LA j7 j8 (by rw[si _ _ _ _ (by omega)];rw[si _ _ _ _ (by omega)] at Hm;exact Hm) JO
    ·obtain rfl:k=16:=(by omega);refine jB (Ai @LA (decide_eq_false (show ¬((16:Nat):Int)<16 by decide))) ?_;refine wK fun K5 jZ=>?_;refine jF ?_;refine aC ?_;simp only[az,ar,if_true,if_false];clear jZ K5;refine br _ _ ?_;clear br K3;rw[←hCC] at j8;refine jD (Ai @NC (cN j (by omega))) ?_;refine⟨⟨j+1,be 4 w,by omega,Yd,g7,g8,g10,g11,Q7,rfl,j7,j8,by rw[show 16*(j+1)=16*j+16 from rfl];exact Hm,JO⟩,?_⟩;simp only[TV,aH,↓reduceIte];omega
  ·obtain rfl:j=RB:=(by omega);refine jB (Ai @Z8 (Ai @TV (decide_eq_false (show ¬(j:Int)<(j:Int) by omega)))) ?_;refine wK fun K2 aX=>?_;refine jF ?_;refine aC ?_;simp only[az,ar,if_true];clear aX K2;refine kh _ _ ?_;clear kh K1;have sm:=Aes.nC key ax text;rw[si _ _ _ _ (by omega),fE,l9 sm] at Hm;have hl5:((Aes.mask key ax text).map ai).length=text.length:=(by rw[List.length_map,sm]);refine A8 (gZ.freeze (d:=11) (o:=se) (off:=0) (sz:=1) (n:=text.length) (cap:=cap) (by simp only[aH,Nc,↓reduceIte];exact wA) Hm (by omega)) (cp.g ?_);have oq:s.le (s6.drop se):=AS.sB ew TU;generalize s6.drop se=s7 at *
   rw[show(((Aes.mask key ax text).map ai).drop 0).take (text.length*1)=(Aes.mask key ax text).map ai from by rw[List.drop_zero,List.take_of_length_le (by omega)],←sm];generalize Aes.mask key ax text=M at *
   refine jA ?_;refine jI ?_;exact⟨_,s,AV.bQ,oq,rfl,rfl⟩
theorem wT(key ax:List UInt8)(hk:key.length=48)(hn:ax.length=16)(s:AS):
  aj prog Γ 189 [al key .any,al ax .any,al [] .any] s (fun r s'=>r=al [] .any∧s'=s):=by
 refine aa func189 rfl ntmps189 results189 (by simp) ?_;have M0:(key.take 16).length=16:=(by simp[hk]);have Nd:(List.take 16 (key.map ai)).length=16:=(by simp[hk]);have Ni:(List.take 16 (key.map ai)).all AV.one=true:=(by rw[←List.map_take];exact ck _);have FC:(ax.map ai).length=16:=(by rw[List.length_map,hn]);have Ss:=ck ax;have Nj:List.take 16 (ax.map ai)=ax.map ai:=List.take_of_length_le (by omega);have pR:=Fi ax hn;have uK:=fun s=>tK (Γ:=Γ) [] s (by simp);unfold al at uK⊢;rw[hk,hn];refine jA ?_;refine jQ fun K hK=>?_;intro o7 Di o8 Hi;obtain⟨TR,JN⟩:=AS.eW Hi;rw[Rv];refine hK _ _ ?_;clear hK K;generalize mh:(s.set o7 (List.replicate 16 (bV 0))).set o8 (List.replicate 16 (bV 0))=s0 at *
 have j7:s0.aw o7=some (List.replicate 16 (bV 0)):=(by rw[←mh,AS.ao _ TR.symm,AS.ae]);have j8:s0.aw o8=some (List.replicate 16 (bV 0)):=(by rw[←mh];exact AS.ae _ _ _);have hle:s.le s0:=(by rw[←mh];exact AS.aE (AS.aE (AS.le.refl s) Di _) JN _);clear mh Hi;have sA:(List.replicate 16 (bV 0)).length=16:=(by simp);generalize hZ:List.replicate 16 (bV 0)=Z at *
 refine jB (Ai @j7 (Ai @sA (Ai @Nd (Ai @Ni (Ai (show(0:Int)≤((16:Nat):Int) from by decide) (Ai (show((16:Nat):Int)≤((16:Nat):Int) from by decide) (Ai (show ¬(((16:Nat):Int)=0) from by decide) (show min 48 16=16 from rfl)))))))) ?_;generalize gC:s0.set o7 (bn Z 0 (List.map ai (List.take 16 key)))=s1 at *
 have q8:s1.aw o8=some Z:=(by rw[←gC,AS.ao _ TR];exact j8);have pc:s.le s1:=(by rw[←gC];exact AS.aE hle Di _);clear gC j7 j8 hle;refine jB (Ai @q8 (Ai @sA (Ai @FC (Ai @Ss (Ai @Nj (Ai (show(0:Int)≤((16:Nat):Int) from by decide) (Ai (show((16:Nat):Int)≤((16:Nat):Int) from by decide) (Ai (show ¬(((16:Nat):Int)=0) from by decide) (show min 16 16=16 from rfl))))))))) ?_;generalize ng:s1.set o8 (bn Z 0 (ax.map ai))=s2 at *
 have ga:s.le s2:=(by rw[←ng];exact AS.aE pc JN _);clear ng q8 pc;have Nl:(ax.drop 12).length=4:=(by simp[hn]);have gP:=fun s=>rU (Γ:=Γ) (ax.drop 12) s (by omega);unfold al at gP;rw[Nl] at gP;refine wS fun K hK=>?_;simp only[↓DN,Qa,Qb,Qc,Qd,Qe,Qf,Qg,Qh,reduceCtorEq,↓reduceIte,Na,Nb,Nc,Nk,Nf,Ng,Nh,Za,Zb,Zc,TT,Nj,hn,show(0:Int)≤12 from by decide,show(12:Int)≤((16:Nat):Int) from by decide,show((16:Nat):Int)≤((16:Nat):Int) from by decide];refine ad (gP _) ?_;rintro r s3 ⟨p,rfl,hp⟩;refine jR hK ?_;clear hK K;refine jQ fun K hK=>?_;refine ad (tL s2 s3 p _ hp) ?_;rintro r s4 ⟨rfl,FA⟩;refine jR hK ?_;clear hK K;have eM:s.le s4:=AS.le.trans ga FA.le;clear hp FA ga gP;refine jK (uK _) ?_;rintro s5 rfl;have c1:ec .i64 ((0:Nat):Int) 16=((16:Nat):Int):=fU 0 16 (by omega);have c2:di .i64 ((16:Nat):Int) 1=((15:Nat):Int):=gF 16 1 (by omega) (by omega);have c3:kK .i64 ((15:Nat):Int) 16=((0:Nat):Int):=(by decide);refine wK fun K hK=>?_;refine wS fun K hK=>?_;simp only[↓DN,Qa,Qb,Qc,Qd,Qe,Qf,Qg,Qh,reduceCtorEq,↓reduceIte,Na,Nb,Nc,Nk,Nf,Ng,Nh,Za,Zb,Zc,TT,List.length_nil,c1,c2,c3,sg];refine hK _ _ ?_;clear hK K;clear c1 c2 c3;refine ah ?_;refine aD (fun E s6=>E 11=.sl 1 0 [] .any∧E 36=nV 0∧E 37=nV 0∧s6=s5)
  (fun E _=>0) ?_ ?_
 ·exact⟨rfl,rfl,rfl,rfl⟩
 ·rintro E1 s6 ⟨wA,Z8,TV,rfl⟩ -
  refine jB (Ai @Z8 (Ai @TV (decide_eq_false (show ¬((0:Nat):Int)<((0:Nat):Int) by decide)))) ?_;refine wK fun K2 aX=>?_;refine jF ?_;refine aC ?_;simp only[az,ar,if_true];clear aX K2;refine hK _ _ ?_;clear hK K;refine jB @wA ?_;refine jI ?_;exact⟨_,s,AV.aB.refl _,eM,rfl,rfl⟩
theorem zr(key ax text:List UInt8)(hk:key.length=48)(hn:ax.length=16)(ht:text.length≤2^30)(s:AS):
  aj prog Γ 189 [al key .any,al ax .any,al text .any] s (fun r s'=>r=al (Aes.mask key ax text) .any∧s'=s):=by
 by_cases h0:text.length=0
 ·obtain rfl:=List.eq_nil_of_length_eq_zero h0;rw[show Aes.mask key ax []=[] from rfl];exact wT key ax hk hn s
 ·exact wR key ax text hk hn h0 ht s
theorem vZ(n c:Nat):(((n:Nat):Int)==((c:Nat):Int))=decide (n=c):=by
 by_cases h:n=c
 ·subst h;simp
 ·rw[decide_eq_false h];simp;omega
theorem v7(key ax:List UInt8)(s:AS):
  aj prog Γ 188 [al key .any,al ax .any] s (fun r s'=>r=.v (.bool (decide (key.length=48∧ax.length=16)))∧s'=s):=by
 refine aa func188 rfl ntmps188 results188 (by simp) ?_;have e1:((key.length:Int)==48)=decide (key.length=48):=vZ key.length 48;have e2:((ax.length:Int)==16)=decide (ax.length=16):=vZ ax.length 16;by_cases h1:key.length=48
 ·rw[decide_eq_true h1] at e1;by_cases h2:ax.length=16
  ·rw[decide_eq_true h2] at e2;rw[decide_eq_true (⟨h1,h2⟩:key.length=48∧ax.length=16)];refine jA ?_;refine jB (Ai @e1 @e2) ?_;exact jJ
  ·rw[decide_eq_false h2] at e2;rw[decide_eq_false (fun h:key.length=48∧ax.length=16=>h2 h.2)];refine jA ?_;refine jB (Ai @e1 @e2) ?_;exact jJ
 ·rw[decide_eq_false h1] at e1;rw[decide_eq_false (fun h:key.length=48∧ax.length=16=>h1 h.1)];refine jA ?_;refine jB @e1 ?_;exact jJ
theorem Fj(a b c d:List UInt8):gl [a,b,c,d]=[al a .any,al b .any,al c .any,al d .any]:=rfl
theorem zt(dO:Γ 0=ef Sha.H0)(hG:Γ 1=Sha.K.map wV)(key ax beside masked:List UInt8)(hk:key.length=48)(hn:ax.length=16)(hb:beside.length≤2^30)(hm:masked.length≤2^30)(s:AS):
  aj prog Γ 190 [al key .any,al ax .any,al beside .any,al masked .any] s (fun r s'=>r=al (Aes.tag key ax beside masked) .any∧s'=s):=by
 refine aa func190 rfl ntmps190 results190 (by simp) ?_;have hps:bm 4 (beside.length:Int) ([],false)=(be 4 beside.length,false):=by
  unfold bm;rw[if_pos ⟨by omega,by omega⟩];simp[ed]
 have FF:(key.drop 16).length=32:=(by simp[hk]);have Fc:=fun s=>ot (Γ:=Γ) dO hG (key.drop 16) [be 4 beside.length,beside,ax,masked] .new (by omega) (by simp) (by simp[hn];omega) s;rw[show[be 4 beside.length,beside,ax,masked].flatten=be 4 beside.length++(beside++(ax++masked)) from by simp,Fj] at Fc;have me:=Mac.mF (key.drop 16) (be 4 beside.length++(beside++(ax++masked)));rw[TQ];have EY:(be 4 beside.length).length=4:=(by simp);generalize Mac.tag (key.drop 16) (be 4 beside.length++(beside++(ax++masked)))=T0 at *
 have dM:List.take 48 key=key:=List.take_of_length_le (by omega);refine jA ?_;refine jQ fun K hK=>?_;refine ad (qw s) ?_;rintro r s1 ⟨p,rfl,q1⟩;refine jR hK ?_;clear hK K;refine jQ fun K hK=>?_;refine ad (tI s s1 p ([],false) (beside.length:Int) (by omega) (by simp) q1) ?_;rintro r s2 ⟨rfl,q2⟩;rw[hps] at q2;refine jR hK ?_;clear hK K;refine jQ fun K hK=>?_;refine ad (iC s s2 p _ (by simp) q2) ?_;rintro r s3 ⟨rfl,rfl⟩;generalize be 4 beside.length=bh at *
 refine jR hK ?_;clear hK K;unfold al at Fc;rw[FF] at Fc;have xaa:∀x:AV,List.replicate 4 x=[x,x,x,x]:=fun _=>rfl;refine wS fun K hK=>?_;simp only[↓DN,Qa,Qb,Qc,Qd,Qe,Qf,Qg,Qh,reduceCtorEq,↓reduceIte,Na,Nb,Nc,Nk,Nf,Ng,Nh,Za,Zb,Zc,TT,hk,dM,xaa,show(0:Int)≤16 from by decide,show(16:Int)≤((48:Nat):Int) from by decide,show((48:Nat):Int)≤((48:Nat):Int) from by decide];refine ad (Fc _) ?_;intro r s4 bu;have eM:s.le s4:=AS.le.trans q2.le bu.1;obtain⟨t,e,rfl⟩:=cn bu (by rw[←List.length_pos_iff,me];decide);clear bu;refine jV (Ai @me (Ai (show(0:Int)≤16 from by decide) (Ai (show(16:Int)≤((32:Nat):Int) from by decide) (show ¬((16:Int)=((32:Nat):Int)) from by decide)))) hK ?_;clear hK K;refine jI ?_;have xdf:(T0.take 16).length=16:=(by simp[me]);refine⟨al (T0.take 16) .any,s,?_,eM,rfl,rfl⟩;unfold al;rw[xdf];exact AV.bQ
def ym(key ax beside text:List UInt8):List UInt8:=if key.length=48∧ax.length=16 then Aes.dU key ax beside text else[]
def yn(key ax:List UInt8):Nat:=if key.length=48∧ax.length=16 then 0 else 2
def Sv(key ax beside z:List UInt8):List UInt8:=if key.length=48∧ax.length=16 then iq key ax beside z else[]
def Sw(key ax beside z:List UInt8):Nat:=if key.length=48∧ax.length=16 then ir key ax beside z else 2
theorem oe(key ax beside text:List UInt8):(Aes.dU key ax beside text).length=text.length+16:=by
 rw[Aes.dU,List.length_append,Aes.nC,Aes.mF]
theorem Gk(dO:Γ 0=ef Sha.H0)(hG:Γ 1=Sha.K.map wV)(key ax beside text:List UInt8)(hb:beside.length≤2^30)(ht:text.length≤2^30)(s:AS):
  aj prog Γ 155 [al key .any,al ax .any,al beside .any,al text .any] s (fun r s'=>r=.eo [al (ym key ax beside text) .any,.v (.int .i64 ((yn key ax:Nat):Int))]∧s'=s):=by
 refine aa func155 rfl ntmps155 results155 (by simp) ?_;refine jA ?_;refine wK fun K hK=>?_;refine jQ fun K hK=>?_;refine ad (v7 key ax _) ?_;rintro r s1 ⟨rfl,rfl⟩;by_cases hf:key.length=48∧ax.length=16
 ·have h1:ym key ax beside text=Aes.dU key ax beside text:=(by unfold ym;rw[if_pos hf]);have h2:yn key ax=0:=(by unfold yn;rw[if_pos hf]);rw[decide_eq_true hf];obtain⟨hk,hn⟩:=hf;refine jR hK ?_;clear hK K;refine jF ?_;refine ab ?_;refine hK _ _ ?_;clear hK K;have sm:=Aes.nC key ax text;have me:=Aes.mF key ax beside (Aes.mask key ax text);have c1:=fun s=>zr (Γ:=Γ) key ax text hk hn ht s;have c2:=fun s=>zt (Γ:=Γ) dO hG key ax beside (Aes.mask key ax text) hk hn hb (by omega) s;have Iy:Aes.dU key ax beside text=Aes.mask key ax text++Aes.tag key ax beside (Aes.mask key ax text):=rfl;have c3:=fun s=>kU (Γ:=Γ) [Aes.mask key ax text,Aes.tag key ax beside (Aes.mask key ax text)] .new (by simp) (by simp;omega) s;rw[show[Aes.mask key ax text,Aes.tag key ax beside (Aes.mask key ax text)].flatten=Aes.dU key ax beside text from by rw[Iy];simp,Hd] at c3;have tn:=oe key ax beside text;clear Iy;generalize Aes.dU key ax beside text=S0 at *
  generalize Aes.tag key ax beside (Aes.mask key ax text)=T0 at *
  generalize Aes.mask key ax text=M at *
  refine jK (c1 _) ?_;rintro s2 rfl;refine wS fun K hK=>?_;simp only[↓DN,Qa,Qb,Qc,Qd,Qe,Qf,Qg,Qh,reduceCtorEq,↓reduceIte,Na,Nb,Nc,Nk,Nf,Ng,Nh,Za,Zb,Zc,TT,List.replicate_succ,List.replicate_zero];refine ad (c2 _) ?_;rintro r s3 ⟨rfl,rfl⟩;simp only[↓DM,bN,DX,Nz,↓DN,Qa,Qb,Qc,Qd,Qe,Qf,Qg,Qh,reduceCtorEq,↓reduceIte,Na,Nb,Nc,Nk,Nf,Ng,Nh,Za,Zb,Zc,TT,List.replicate_succ,List.replicate_zero];refine ad (c3 _) ?_;intro r s4 bu;have hw:=bu.aB;have hle:=bu.1;obtain⟨t,e,rfl⟩:=cn bu (by rw[←List.length_pos_iff,tn];omega);refine jR hK ?_;clear hK K;refine jI ?_;rw[h1,h2];exact⟨_,s3,AV.cB hw (AV.aB.refl _),hle,rfl,rfl⟩
 ·have h1:ym key ax beside text=[]:=(by unfold ym;rw[if_neg hf]);have h2:yn key ax=2:=(by unfold yn;rw[if_neg hf]);rw[decide_eq_false hf];refine jR hK ?_;clear hK K;refine jE ?_;refine jA ?_;refine jI ?_;rw[h1,h2];exact⟨_,_,AV.cB AV.aN (AV.aB.refl _),AS.le.refl _,rfl,rfl⟩
theorem wy(dO:Γ 0=ef Sha.H0)(hG:Γ 1=Sha.K.map wV)(key ax beside z:List UInt8)(hb:beside.length≤2^30)(hz:z.length≤2^30)(s:AS):
  aj prog Γ 174 [al key .any,al ax .any,al beside .any,al z .any] s (fun r s'=>r=.eo [al (Sv key ax beside z) .any,.v (.int .i64 ((Sw key ax beside z:Nat):Int))]∧s'=s):=by
 refine aa func174 rfl ntmps174 results174 (by simp) ?_;have p9:di .i64 (z.length:Int) 16=(z.length:Int)-16:=bR (by omega);refine jA ?_;refine jB @p9 ?_;refine wK fun K hK=>?_;refine ah ?_;refine jQ fun K hK=>?_;refine ad (v7 key ax _) ?_;rintro r s1 ⟨rfl,rfl⟩;by_cases hf:key.length=48∧ax.length=16
 ·have h1:Sv key ax beside z=iq key ax beside z:=(by unfold Sv;rw[if_pos hf]);have h2:Sw key ax beside z=ir key ax beside z:=(by unfold Sw;rw[if_pos hf]);rw[decide_eq_true hf];obtain⟨hk,hn⟩:=hf;refine jR hK ?_;clear hK K;refine jF ?_;by_cases Pn:z.length<16
  ·have h3:iq key ax beside z=[]:=(by unfold iq;rw[if_pos Pn]);have h4:ir key ax beside z=10:=(by unfold ir;rw[if_pos Pn]);refine jB (decide_eq_true (show(z.length:Int)-16<0 by omega)) ?_;refine jE ?_;refine jA ?_;refine jI ?_;rw[h1,h2,h3,h4];exact⟨_,_,AV.cB AV.aN (AV.aB.refl _),AS.le.refl _,rfl,rfl⟩
  ·have xdg:(z.length:Int)-16=((z.length-16:Nat):Int):=(by omega);have htz:List.take z.length (z.map ai)=z.map ai:=List.take_of_length_le (by simp);have m0:(0:Int)≤((z.length-16:Nat):Int):=(by omega);have m1:((z.length-16:Nat):Int)≤(z.length:Int):=(by omega);have m2:(z.length:Int)≤(z.length:Int):=Int.le_refl _;have m3:z.length-(z.length-16)=16:=(by omega);rw[xdg];have me:(z.take (z.length-16)).length=z.length-16:=(by rw[List.length_take];omega);have Fs:(z.drop (z.length-16)).length=16:=(by rw[List.length_drop];omega);have c2:=fun s=>zt (Γ:=Γ) dO hG key ax beside (z.take (z.length-16)) hk hn hb (by omega) s;have c1:=fun s=>zr (Γ:=Γ) key ax (z.take (z.length-16)) hk hn (by omega) s;have c4:=fun s=>He (Γ:=Γ) (Aes.tag key ax beside (z.take (z.length-16))) (z.drop (z.length-16)) (by rw[Aes.mF];decide) s;have TX:List.take z.length z=z:=List.take_length;unfold al at c1 c2 c4;rw[me] at c1 c2;rw[Fs] at c4;refine jB (decide_eq_false (show ¬((z.length-16:Nat):Int)<0 by omega)) ?_;refine jF ?_;refine ba T.mixed [6,10] (by kernel_rfl) ?_;intro K hK;simp only[↓DM,bN,DX,Nz,↓DN,Qa,Qb,Qc,Qd,Qe,Qf,Qg,Qh,reduceCtorEq,↓reduceIte,Na,Nb,Nc,Nk,Nf,Ng,Nh,Za,Zb,Zc,TT,m0,m1,m2,m3,htz,TX];refine ad (c2 _) ?_;rintro r s2 ⟨rfl,rfl⟩;simp only[↓DM,bN,DX,Nz,↓DN,Qa,Qb,Qc,Qd,Qe,Qf,Qg,Qh,reduceCtorEq,↓reduceIte,Na,Nb,Nc,Nk,Nf,Ng,Nh,Za,Zb,Zc,TT,m0,m1,m2,m3,htz,TX];refine ad (c4 _) ?_;rintro r s3 ⟨rfl,rfl⟩;by_cases ht:Aes.tag key ax beside (z.take (z.length-16))=z.drop (z.length-16)
   ·have h3:iq key ax beside z=Aes.mask key ax (z.take (z.length-16)):=(by unfold iq;rw[if_neg Pn,if_pos ht]);have h4:ir key ax beside z=0:=(by unfold ir;rw[if_neg Pn,if_pos ht]);rw[decide_eq_true ht];refine jR hK ?_;clear hK K;refine jF ?_;refine ab ?_;simp only[ar,az,if_true,if_false];refine hK _ _ ?_;clear hK K;refine wS fun K hK=>?_;simp only[↓DN,Qa,Qb,Qc,Qd,Qe,Qf,Qg,Qh,reduceCtorEq,↓reduceIte,Na,Nb,Nc,Nk,Nf,Ng,Nh,Za,Zb,Zc,TT,m0,m1,m2,m3,htz,TX];refine ad (c1 _) ?_;rintro r s4 ⟨rfl,rfl⟩;refine jR hK ?_;clear hK K;refine jI ?_;rw[h1,h2,h3,h4];exact jW ⟨rfl,rfl⟩
   ·have h3:iq key ax beside z=[]:=(by unfold iq;rw[if_neg Pn,if_neg ht]);have h4:ir key ax beside z=14:=(by unfold ir;rw[if_neg Pn,if_neg ht]);rw[decide_eq_false ht];refine jR hK ?_;clear hK K;refine jE ?_;refine jA ?_;refine jI ?_;rw[h1,h2,h3,h4];exact⟨_,_,AV.cB AV.aN (AV.aB.refl _),AS.le.refl _,rfl,rfl⟩
 ·have h1:Sv key ax beside z=[]:=(by unfold Sv;rw[if_neg hf]);have h2:Sw key ax beside z=2:=(by unfold Sw;rw[if_neg hf]);rw[decide_eq_false hf];refine jR hK ?_;clear hK K;refine jE ?_;refine jA ?_;refine jI ?_;rw[h1,h2];exact⟨_,_,AV.cB AV.aN (AV.aB.refl _),AS.le.refl _,rfl,rfl⟩
theorem yp(key ax beside text:List UInt8):iq key ax beside (Aes.dU key ax beside text)=text:=by
  have hl:=oe key ax beside text;unfold iq;rw[if_neg (by omega)];have sm:=Aes.nC key ax text;have e1:(Aes.dU key ax beside text).take ((Aes.dU key ax beside text).length-16)=Aes.mask key ax text:=by
    rw[hl,Aes.dU,Nat.add_sub_cancel,List.take_append_of_le_length (by omega),List.take_of_length_le (by omega)]
  have e2:(Aes.dU key ax beside text).drop ((Aes.dU key ax beside text).length-16)=Aes.tag key ax beside (Aes.mask key ax text):=by
    rw[hl,Aes.dU,Nat.add_sub_cancel,List.drop_append_of_le_length (by omega),List.drop_eq_nil_of_le (by omega),List.nil_append]
  rw[e1,e2,if_pos rfl,Aes.JD]
theorem yq(key ax beside text:List UInt8):ir key ax beside (Aes.dU key ax beside text)=0:=by
  have hl:=oe key ax beside text;unfold ir;rw[if_neg (by omega)];have sm:=Aes.nC key ax text;have e1:(Aes.dU key ax beside text).take ((Aes.dU key ax beside text).length-16)=Aes.mask key ax text:=by
    rw[hl,Aes.dU,Nat.add_sub_cancel,List.take_append_of_le_length (by omega),List.take_of_length_le (by omega)]
  have e2:(Aes.dU key ax beside text).drop ((Aes.dU key ax beside text).length-16)=Aes.tag key ax beside (Aes.mask key ax text):=by
    rw[hl,Aes.dU,Nat.add_sub_cancel,List.drop_append_of_le_length (by omega),List.drop_eq_nil_of_le (by omega),List.nil_append]
  rw[e1,e2,if_pos rfl]
theorem sj(n:Nat)(hn:n<2^64)(s:AS):aj prog Γ 182 [.v (.int .u64 n)] s (fun r s'=>r=.v (.int .u64 (n%PP:Nat))∧s'=s):=by
 refine aa func182 rfl ntmps182 results182 (by simp) ?_;refine jA ?_;refine jA ?_;refine wK fun K hK=>?_;have hf:=Hj n hn;unfold C5 at hf;simp only at hf;refine jA ?_;by_cases hc:(2305843009213693951:Int)≤ec .u64 (mg .u64 n 2305843009213693951) (eJ .u64 n 61)
 ·rw[if_pos hc] at hf;refine wC fun X Y hX hY=>?_;refine jP (Ai @DB @hc) ?_;refine hX ?_;clear hX hY X Y;refine jC ?_;refine hK _ _ ?_;clear hK K;refine jA ?_;refine jI ?_;exact jW ⟨by rw[hf],rfl⟩
 ·rw[if_neg hc] at hf;refine wC fun X Y hX hY=>?_;refine jP (Ai @DB @hc) ?_;refine hY ?_;clear hX hY X Y;refine ab ?_;refine hK _ _ ?_;clear hK K;refine jA ?_;refine jI ?_;exact jW ⟨by rw[hf],rfl⟩
theorem Fk(x y:Nat)(hx:x<2^64)(hy:y<2^64)(s:AS):aj prog Γ 181 [.v (.int .u64 x),.v (.int .u64 y)] s
  (fun r s'=>r=.eo [.v (.int .u64 (x*y/18446744073709551616:Nat)),.v (.int .u64 (x*y%18446744073709551616:Nat))]∧s'=s):=by
 refine aa func181 rfl ntmps181 results181 (by simp) ?_;refine jA ?_;refine jA ?_;refine jA ?_;refine jA ?_;refine jA ?_;refine jA ?_;refine jA ?_;refine jA ?_;refine jA ?_;refine jA ?_;refine jA ?_;refine jA ?_;refine jI ?_;refine jW ⟨?_,rfl⟩;have x1:x/4294967296<4294967296:=(by omega);have y1:y/4294967296<4294967296:=(by omega);have x0:x%4294967296<4294967296:=(by omega);have y0:y%4294967296<4294967296:=(by omega);have b1:=ug x1 y1;have b2:=ug x1 y0;have b3:=ug x0 y1;have b4:=ug x0 y0;have key:=M7 _ _ _ _ x1 x0 y1 y0;rw[show x/4294967296*4294967296+x%4294967296=x from by omega,show y/4294967296*4294967296+y%4294967296=y from by omega] at key;rw[vj x hx,vj y hy,nD,nD,xh _ _ (by omega:x%4294967296*(y%4294967296)<2^64),xh _ _ (by omega:x/4294967296*(y%4294967296)<2^64),
  xh _ _ (by omega:x%4294967296*(y/4294967296)<2^64),xh _ _ (by omega:x/4294967296*(y/4294967296)<2^64),M8,nD]
 generalize x/4294967296*(y/4294967296)=A at *
 generalize x/4294967296*(y%4294967296)=B at *
 generalize x%4294967296*(y/4294967296)=C at *
 generalize x%4294967296*(y%4294967296)=D at *
 rw[oz _ _ (by omega:B+D/4294967296<2^64),vj _ (by omega),oz _ _ (by omega:(B+D/4294967296)%4294967296+C<2^64),nD,nD,oz _ _ (by omega),oz _ _ (by omega),key]
theorem BK(a b:Nat)(ha:a<2^64)(hb:b<2^64)(s:AS):aj prog Γ 147 [.v (.int .u64 a),.v (.int .u64 b)] s (fun r s'=>r=.v (.int .u64 (a*b%PP:Nat))∧s'=s):=by
 refine aa func147 rfl ntmps147 results147 (by simp) ?_;have l1:=dc a;have l2:=dc b;have l3:=HP;have l4:=M9 a b;refine jA ?_;refine jQ fun K hK=>?_;refine ad (sj a ha s) ?_;rintro r s' ⟨rfl,rfl⟩;refine jM ?_;refine ad (sj b hb s') ?_;rintro r s' ⟨rfl,rfl⟩;refine jM ?_;refine ad (Fk (a%PP) (b%PP) (by omega) (by omega) s') ?_;rintro r s' ⟨rfl,rfl⟩;refine jR hK ?_;clear hK K;refine jS (P6 _ l4) fun K hK=>?_;refine ad (sj (a%PP*(b%PP)%2305843009213693952+a%PP*(b%PP)/2305843009213693952) (by omega) s') ?_;rintro r s' ⟨rfl,rfl⟩;refine jR hK ?_;clear hK K;refine jI ?_;exact jW ⟨by rw[JM,←Nat.mul_mod],rfl⟩
theorem BL(a n:Nat)(ha:a<2^64)(hn:n<2^64)(s:AS):aj prog Γ 103 [.v (.int .u64 a),.v (.int .u64 n)] s (fun r s'=>r=.v (.int .u64 (a^n%PP:Nat))∧s'=s):=by
 refine aa func103 rfl ntmps103 results103 (by simp) ?_;refine jA ?_;refine jA ?_;refine wK fun K hK=>?_;refine ah ?_;refine aD (fun E s1=>∃o b m:Nat,E 5=.v (.int .u64 o)∧E 0=.v (.int .u64 b)∧E 1=.v (.int .u64 m)∧o<PP∧b<2^64∧m<2^64∧o*b^m%PP=a^n%PP∧s1=s)
  (fun E _=>match E 1 with |.v (.int _ i)=>i.toNat|_=>0) ?_ ?_
 ·exact⟨1,a,n,by simp[aH],by simp[aH,bC],by simp[aH,bC],by decide,ha,hn,by simp,rfl⟩
 ·rintro E1 s1 ⟨o,b,m,h5,h0,h1,ho,hb,hm,hinv,rfl⟩ -
  have hPP:PP=2305843009213693951:=rfl;refine wK fun K2 aX=>?_;by_cases uk:m=0
  ·subst uk;refine jB (Ai @h5 (Ai @h0 (Ai @h1 (Ai @Int.natCast_zero @Int.lt_irrefl)))) ?_;refine jF ?_;refine aC ?_;simp only[az,ar,if_true];refine hK _ _ ?_;clear hK aX K K2;refine jB @h5 ?_;refine jI ?_;refine jW ⟨?_,rfl⟩;rw[←hinv];simp[Nat.mod_eq_of_lt ho]
  ·have ux:(0:Int)<m:=(by omega);refine jB (Ai @h5 (Ai @h0 (Ai @h1 @ux))) ?_;refine jE ?_;refine ab ?_;refine aX _ _ ?_;clear aX K2;refine wK fun K3 br=>?_;refine ah ?_;refine wK fun K4 eb=>?_;have hand:mg .u64 (m:Int) 1=((m%2:Nat):Int):=by
    have:=rB (k:=.u64) rfl m 1 hm (by decide);rw[Nat.and_one_is_mod] at this;exact this
   have xdi:eJ .u64 (m:Int) 1=((m/2:Nat):Int):=by
    have:=hJ (k:=.u64) m 1;simpa[IntKind.bits] using this
   have RC:∀(E2:Env)(o2:Nat),E2 5=.v (.int .u64 o2)→E2 0=.v (.int .u64 b)→E2 1=.v (.int .u64 m)→o2<PP→o2*(b*b%PP)^(m/2)%PP=a^n%PP→K4 E2 s1:=by
    intro E2 o2 e5 e0 e1 qG zm;refine eb _ _ ?_;clear eb K4;refine jU @e0 fun K hK=>?_;refine ad (BK b b hb hb s1) ?_;rintro r s' ⟨rfl,rfl⟩;refine jR hK ?_;clear hK K;refine br _ _ ?_;clear br K3;refine jD (Ai @e1 @xdi) ?_;have Fu:b*b%PP<PP:=dc _;refine⟨⟨o2,b*b%PP,m/2,e5,rfl,rfl,qG,by omega,by omega,zm,rfl⟩,?_⟩;simp only[h1,aH,↓reduceIte];omega
   by_cases yi:m%2=1
   ·refine jB (Ai @h5 (Ai @h0 (Ai @h1 (Ai @hand (Ai @yi @Int.natCast_one))))) ?_;refine jE ?_;refine jU (Ai @h5 @h0) fun K hK=>?_;refine ad (BK o b (by omega) hb s1) ?_;rintro r s' ⟨rfl,rfl⟩;refine jR hK ?_;clear hK K;refine RC _ (o*b%PP) rfl h0 h1 (dc _) ?_;rw[←hinv];have e:b^m=b*(b*b)^(m/2):=by
     have :m=2*(m/2)+1:=(by omega);conv=>lhs;rw[this,Nat.pow_succ,Nat.pow_mul,Nat.pow_two,Nat.mul_comm]
    rw[e,←Nat.mul_assoc,Nat.mul_mod,Nat.mod_mod,←Nat.pow_mod,←Nat.mul_mod]
   ·have zn:m%2=0:=(by omega);refine wS fun K hK=>?_;simp only[↓DN,Qa,Qb,Qc,Qd,Qe,Qf,Qg,Qh,reduceCtorEq,↓reduceIte,Na,Nb,Nc,Nk,Nf,Ng,Nh,Za,Zb,Zc,TT,h5,h0,h1,hand,zn,Int.natCast_zero,Int.reduceBEq,Bool.false_eq_true];refine hK _ _ ?_;clear hK K;refine jF ?_;refine ab ?_;refine RC _ o h5 h0 h1 ho ?_;rw[←hinv];have e:b^m=(b*b)^(m/2):=by
     have :m=2*(m/2):=(by omega);conv=>lhs;rw[this,Nat.pow_mul,Nat.pow_two]
    rw[e,Nat.mul_mod,←Nat.pow_mod,←Nat.mul_mod]
theorem uh:((0:Int)==1)=false:=rfl
theorem Fl(m:Nat)(hm:m<2^64):kK .u64 (m:Int) 2=((m/2:Nat):Int):=Ke rfl m 2 hm
theorem Fm(n:Nat):iG (n:Int) 2305843009213693951=((n%PP:Nat):Int):=lH n 2305843009213693951
theorem C7(n:Nat):iG (n:Int) 2=((n%2:Nat):Int):=lH n 2
theorem ui(a b:Nat)(ha:a<2^64)(hb:b<2^64)(s:AS):aj prog Γ 126 [.v (.int .u64 a),.v (.int .u64 b)] s (fun r s'=>r=.v (.int .u64 (a*b%PP:Nat))∧s'=s):=by
 have hPP:PP=2305843009213693951:=rfl;refine aa func126 rfl ntmps126 results126 (by simp) ?_;refine jA ?_;refine jB @Fm ?_;refine jB @Fm ?_;refine jA ?_;refine wK fun K hK=>?_;refine ah ?_;refine aD (fun E s1=>∃o b' m:Nat,E 5=.v (.int .u64 o)∧E 0=.v (.int .u64 b')∧E 1=.v (.int .u64 m)∧o<PP∧b'<PP∧m<2^64∧(o+b'*m)%PP=a*b%PP∧s1=s)
  (fun E _=>match E 1 with |.v (.int _ i)=>i.toNat|_=>0) ?_ ?_
 ·exact⟨0,a%PP,b%PP,by simp[aH],by simp[aH],by simp[aH],by decide,dc _,by have:=dc b;omega,by rw[Nat.zero_add,←Nat.mul_mod],rfl⟩
 ·rintro E1 s1 ⟨o,b',m,h5,h0,h1,ho,Km,hm,hinv,rfl⟩ -
  refine wK fun K2 aX=>?_;by_cases uk:m=0
  ·subst uk;refine jB (Ai @h5 (Ai @h0 (Ai @h1 (Ai @Int.natCast_zero @Int.lt_irrefl)))) ?_;refine jF ?_;refine aC ?_;simp only[az,ar,if_true];refine hK _ _ ?_;clear hK aX K K2;refine jB @h5 ?_;refine jI ?_;refine jW ⟨?_,rfl⟩;rw[←hinv];simp[Nat.mod_eq_of_lt ho]
  ·have ux:(0:Int)<m:=(by omega);refine jB (Ai @h5 (Ai @h0 (Ai @h1 @ux))) ?_;refine jE ?_;refine ab ?_;refine aX _ _ ?_;clear aX K2;refine ah ?_;refine wK fun K4 eb=>?_;have RC:∀(E2:Env)(o2:Nat),E2 5=.v (.int .u64 o2)→E2 0=.v (.int .u64 b')→E2 1=.v (.int .u64 m)→o2<PP→(o2+(b'+b')%PP*(m/2))%PP=a*b%PP→K4 E2 s1:=by
    intro E2 o2 e5 e0 e1 qG zm;refine eb _ _ ?_;clear eb K4;refine jB (Ai @e0 (Ai (oz b' b' (by omega)) @Fm)) ?_;refine jD (Ai @e1 (Fl m hm)) ?_;have Fu:(b'+b')%PP<PP:=dc _;refine⟨⟨o2,(b'+b')%PP,m/2,e5,rfl,rfl,qG,by omega,by omega,zm,rfl⟩,?_⟩;simp only[h1,aH,↓reduceIte];omega
   by_cases yi:m%2=1
   ·refine jB (Ai @h5 (Ai @h0 (Ai @h1 (Ai @C7 (Ai @yi @Int.natCast_one))))) ?_;refine jE ?_;refine jD (Ai @h5 (Ai @h0 (Ai (oz o b' (by omega)) @Fm))) ?_;refine RC _ ((o+b')%PP) rfl h0 h1 (dc _) ?_;rw[←hinv];have e:b'*m=b'+(b'+b')*(m/2):=by
     have :m=2*(m/2)+1:=(by omega);conv=>lhs;rw[this]
     rw[Nat.mul_add,Nat.mul_one,←Nat.mul_assoc,Nat.mul_two,Nat.add_comm]
    rw[e,←Nat.add_assoc,Nat.add_mod,Nat.mod_mod,Nat.mod_mul_mod,←Nat.add_mod]
   ·have zn:m%2=0:=(by omega);refine jB (Ai @h5 (Ai @h0 (Ai @h1 (Ai @C7 (Ai @zn (Ai @Int.natCast_zero @uh)))))) ?_;refine wC fun X Y hX hY=>?_;refine jP (Ai @DB @uh) ?_;refine hY ?_;clear hX hY X Y;refine ab ?_;refine RC _ o h5 h0 h1 ho ?_;rw[←hinv];have e:b'*m=(b'+b')*(m/2):=by
     have :m=2*(m/2):=(by omega);conv=>lhs;rw[this]
     rw[←Nat.mul_assoc,Nat.mul_two]
    rw[e,Nat.add_mod,Nat.mod_mul_mod,←Nat.add_mod]
theorem C8(a n:Nat)(ha:a<2^64)(hn:n<2^64)(s:AS):aj prog Γ 68 [.v (.int .u64 a),.v (.int .u64 n)] s (fun r s'=>r=.v (.int .u64 (a^n%PP:Nat))∧s'=s):=by
 have hPP:PP=2305843009213693951:=rfl;refine aa func68 rfl ntmps68 results68 (by simp) ?_;refine jA ?_;refine jA ?_;refine jB @Fm ?_;refine wK fun K hK=>?_;refine ah ?_;refine aD (fun E s1=>∃o b m:Nat,E 5=.v (.int .u64 o)∧E 0=.v (.int .u64 b)∧E 1=.v (.int .u64 m)∧o<PP∧b<2^64∧m<2^64∧o*b^m%PP=a^n%PP∧s1=s)
  (fun E _=>match E 1 with |.v (.int _ i)=>i.toNat|_=>0) ?_ ?_
 ·exact⟨1,a%PP,n,by simp[aH],by simp[aH],by simp[aH,bC],by decide,by have:=dc a;omega,hn,by rw[Nat.one_mul,←Nat.pow_mod],rfl⟩
 ·rintro E1 s1 ⟨o,b,m,h5,h0,h1,ho,hb,hm,hinv,rfl⟩ -
  refine wK fun K2 aX=>?_;by_cases uk:m=0
  ·subst uk;refine jB (Ai @h5 (Ai @h0 (Ai @h1 (Ai @Int.natCast_zero @Int.lt_irrefl)))) ?_;refine jF ?_;refine aC ?_;simp only[az,ar,if_true];refine hK _ _ ?_;clear hK aX K K2;refine jB @h5 ?_;refine jI ?_;refine jW ⟨?_,rfl⟩;rw[←hinv];simp[Nat.mod_eq_of_lt ho]
  ·have ux:(0:Int)<m:=(by omega);refine jB (Ai @h5 (Ai @h0 (Ai @h1 @ux))) ?_;refine jE ?_;refine ab ?_;refine aX _ _ ?_;clear aX K2;refine ah ?_;refine wK fun K4 eb=>?_;have RC:∀(E2:Env)(o2:Nat),E2 5=.v (.int .u64 o2)→E2 0=.v (.int .u64 b)→E2 1=.v (.int .u64 m)→o2<PP→o2*(b*b%PP)^(m/2)%PP=a^n%PP→K4 E2 s1:=by
    intro E2 o2 e5 e0 e1 qG zm;refine eb _ _ ?_;clear eb K4;refine jS @e0 fun K hK=>?_;refine ad (ui b b hb hb s1) ?_;rintro r s' ⟨rfl,rfl⟩;refine jR hK ?_;clear hK K;refine jD (Ai @e1 (Fl m hm)) ?_;have Fu:b*b%PP<PP:=dc _;refine⟨⟨o2,b*b%PP,m/2,e5,rfl,rfl,qG,by omega,by omega,zm,rfl⟩,?_⟩;simp only[h1,aH,↓reduceIte];omega
   by_cases yi:m%2=1
   ·refine jB (Ai @h5 (Ai @h0 (Ai @h1 (Ai @C7 (Ai @yi @Int.natCast_one))))) ?_;refine jE ?_;refine jU (Ai @h5 @h0) fun K hK=>?_;refine ad (ui o b (by omega) hb s1) ?_;rintro r s' ⟨rfl,rfl⟩;refine jR hK ?_;clear hK K;refine RC _ (o*b%PP) rfl h0 h1 (dc _) ?_;rw[←hinv];have e:b^m=b*(b*b)^(m/2):=by
     have :m=2*(m/2)+1:=(by omega);conv=>lhs;rw[this,Nat.pow_succ,Nat.pow_mul,Nat.pow_two,Nat.mul_comm]
    rw[e,←Nat.mul_assoc,Nat.mul_mod,Nat.mod_mod,←Nat.pow_mod,←Nat.mul_mod]
   ·have zn:m%2=0:=(by omega);refine jB (Ai @h5 (Ai @h0 (Ai @h1 (Ai @C7 (Ai @zn (Ai @Int.natCast_zero @uh)))))) ?_;refine wC fun X Y hX hY=>?_;refine jP (Ai @DB @uh) ?_;refine hY ?_;clear hX hY X Y;refine ab ?_;refine RC _ o h5 h0 h1 ho ?_;rw[←hinv];have e:b^m=(b*b)^(m/2):=by
     have :m=2*(m/2):=(by omega);conv=>lhs;rw[this,Nat.pow_mul,Nat.pow_two]
    rw[e,Nat.mul_mod,←Nat.pow_mod,←Nat.mul_mod]
def tm:List UInt8:=[107,101,121]
def dd(x:List UInt8):Nat:=1+hM (Kdf.label x tm [] 8)%2305843009213693949
theorem Fo:Kdf.fits tm [] 8=true:=by decide
theorem rj(x:List UInt8):(Kdf.label x tm [] 8).length=8:=by
 rw[Kdf.label,Fo,if_pos rfl];exact Kdf.gI _ _ _
theorem uJ(x:List UInt8):dd x<2305843009213693950:=by unfold dd;omega
theorem mN(n:Nat):ec .u64 1 (iG (n:Int) 2305843009213693949)=((1+n%2305843009213693949:Nat):Int):=by
 have h:iG (n:Int) 2305843009213693949=((n%2305843009213693949:Nat):Int):=lH n 2305843009213693949;rw[h];exact oz 1 _ (by omega)
theorem xdj(l:List UInt8)(h:l.length=8):(iU 8 (l,0)).1=hM l:=by
 have e:List.take 8 l=l:=List.take_of_length_le (by omega);simp[iU,dY,h,e]
theorem kx(n:Nat)(hn:n<2^64)(s:AS):aj prog Γ 187 [.v (.int .u64 n)] s (fun r s'=>r=al (be 8 n) .any∧s'=s):=by
 refine aa func187 rfl ntmps187 results187 (by simp) ?_;refine jA ?_;refine jQ fun K hK=>?_;refine ad (qw s) ?_;rintro r s1 ⟨p,rfl,hp⟩;refine jR hK ?_;clear hK K;refine jQ fun K hK=>?_;refine ad (la s s1 p ([],false) n hn (by simp) hp) ?_;rintro r s2 ⟨rfl,FA⟩;refine jR hK ?_;clear hK K;have L4:ed 8 n ([],false)=(be 8 n,false):=(by simp[ed]);rw[L4] at FA;refine jK (iC s s2 p _ (by simp) FA) ?_;rintro s3 rfl;refine jA ?_;refine jI ?_;exact⟨_,s,AV.aB.refl _,FA.le,rfl,rfl⟩
theorem oc(dO:Γ 0=ef Sha.H0)(hG:Γ 1=Sha.K.map wV)(x:List UInt8)(hx:x.length≤2^36)(s:AS):aj prog Γ 41 [al x .any] s (fun r s'=>r=.v (.int .u64 (dd x))∧s'=s):=by
 refine aa func41 rfl ntmps41 results41 (by simp) ?_;have hlen:=rj x;have zk:=jx (Γ:=Γ) dO hG x tm [] 8 hx (by decide) (by decide) (by decide) s;have mi:dd x=1+hM (Kdf.label x tm [] 8)%2305843009213693949:=rfl;generalize dd x=k at *
 generalize Kdf.label x tm [] 8=l at *
 refine jA ?_;refine jK (aj.gL (fe.aB.cons (AV.aB.refl _) (fe.aB.cons (AV.aB.refl _) (fe.aB.cons (AV.aN (sz:=1)) (fe.aB.refl _)))) zk) ?_;rintro s1 rfl;refine jQ fun K hK=>?_;refine ad (rU l s1 (by omega)) ?_;rintro r s2 ⟨p,rfl,hp⟩;refine jM ?_;refine ad (CI s1 s2 p _ hp) ?_;rintro r s3 ⟨rfl,hp3⟩;rw[xdj l hlen];refine jV @mN hK ?_;clear hK K;refine jI ?_;rw[mi,mN];exact⟨_,s1,AV.aB.refl _,hp3.le,rfl,rfl⟩
theorem yA(x:List UInt8)(hx:x.length≤2^36)(s:AS):aj prog Γ 18 [.v (.string ⟨x.toArray⟩)] s (fun r s'=>r=.v (.int .u64 (dd x))∧s'=s):=by
 refine aa func18 rfl ntmps18 results18 (by simp) ?_;have hlen:=rj x;have zk:=zl (Γ:=Γ) x tm [] 8 hx Fo s;have mi:dd x=1+hM (Kdf.label x tm [] 8)%2305843009213693949:=rfl;generalize dd x=k at *
 generalize Kdf.label x tm [] 8=l at *
 refine jA ?_;refine jQ fun K hK=>?_;refine ad zk ?_;rintro r s1 ⟨rfl,rfl⟩;refine jM ?_;refine ad (EJ l (by omega) s1) ?_;rintro r s2 ⟨rfl,rfl⟩;refine jV @mN hK ?_;clear hK K;refine jI ?_;rw[mi,mN];exact jW ⟨rfl,rfl⟩
theorem eN(k:Nat)(hk:k<2^64)(s:AS):aj prog Γ 43 [.v (.int .u64 k)] s (fun r s'=>r=.v (.int .u64 (3^k%PP:Nat))∧s'=s):=by
 refine aa func43 rfl ntmps43 results43 (by simp) ?_;have h:=BL (Γ:=Γ) 3 k (by decide) hk s;generalize 3^k%PP=A at *
 refine jA ?_;refine jK h ?_;rintro s1 rfl;exact jJ
theorem tD(k:Nat)(hk:k<2^64)(s:AS):aj prog Γ 19 [.v (.int .u64 k)] s (fun r s'=>r=.v (.int .u64 (3^k%PP:Nat))∧s'=s):=by
 refine aa func19 rfl ntmps19 results19 (by simp) ?_;have h:=C8 (Γ:=Γ) 3 k (by decide) hk s;generalize 3^k%PP=A at *
 refine jA ?_;refine jK h ?_;rintro s1 rfl;exact jJ
theorem oI(k p:Nat)(hk:k<2^64)(hp:p<2^64)(s:AS):aj prog Γ 154 [.v (.int .u64 k),.v (.int .u64 p)] s (fun r s'=>r=al (be 8 (p^k%PP)) .any∧s'=s):=by
 refine aa func154 rfl ntmps154 results154 (by simp) ?_;have h:=BL (Γ:=Γ) p k hp hk s;have hl:p^k%PP<2^64:=(by have:=dc (p^k);have:=HP;omega);generalize p^k%PP=A at *
 refine jA ?_;refine jQ fun K hK=>?_;refine ad h ?_;rintro r s1 ⟨rfl,rfl⟩;refine jM ?_;refine ad (kx A hl s1) ?_;rintro r s2 ⟨rfl,rfl⟩;refine jR hK ?_;clear hK K;exact jJ
end Go.Proofs.YtbiefppedlodiaaGreatDoor
namespace Go.AM
namespace Hpke
def tm:List UInt8:=[107,101,121]
def yl:List UInt8:=[110,111,110,99,101]
def pm:Nat→Nat→Nat→Nat
  |0,_,_=>1
  |f+1,a,n=>if n%2=1 then a*pm f (a*a%PP) (n/2)%PP else pm f (a*a%PP) (n/2)
theorem EC:∀(f a n:Nat),n<2^f→pm f a n%PP=a^n%PP
  |0,a,n,h=>by
    obtain rfl:n=0:=(by simpa using h);rfl
  |f+1,a,n,h=>by
    have ih:=EC f (a*a%PP) (n/2) (by rw[Nat.pow_succ] at h;omega);have e:a^n=a^(n%2)*(a*a)^(n/2):=by
      conv=>lhs;rw[←Nat.div_add_mod n 2]
      rw[Nat.pow_add,Nat.pow_mul,Nat.mul_comm,Nat.pow_two]
    rw[←Nat.pow_mod] at ih;rw[pm];split
    · rename_i h1;rw[e,h1,Nat.pow_one,Nat.mod_mod,Nat.mul_mod,ih,←Nat.mul_mod]
    · rename_i h1;have h0:n%2=0:=(by omega);rw[e,h0,Nat.pow_zero,Nat.one_mul,ih]
def sec(shared ji to:Nat):List UInt8:=Mac.tag [] (be 8 shared++(be 8 ji++be 8 to))
def hk(s info:List UInt8):List UInt8:=Kdf.label s tm info 48
def hn(s info:List UInt8):List UInt8:=Kdf.label s yl info 16
def ld:List UInt8:=[58,81,223,243,45,240,153,21]
def ki:List UInt8:=[6,141,179,206,59,220,75,205,198,77,58,67,99,194,233,122,153,41,163,200,98,168,177,210,181,231,29,134,148,66,107,113,124,242,131,217,24,36,134,132,77,156,59,74,50,173,130,234]
def m0:List UInt8:=[144,78,103,61]
def t0:List UInt8:=[114,25,121,18,165,57,11,147,19,26,64,233,1,176,44,69]
end Hpke
end Go.AM
