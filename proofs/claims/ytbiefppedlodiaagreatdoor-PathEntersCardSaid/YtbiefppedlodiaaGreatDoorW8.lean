/- Contracts of functions, each walked once; each theorem states its conditions. -/
import Derived.Test.YtbiefppedlodiaaGreatDoorAMp6
import Derived.Test.YtbiefppedlodiaaGreatDoorW1
import Derived.Test.YtbiefppedlodiaaGreatDoorW7
import Derived.Test.YtbiefppedlodiaaGreatDoorAMp3
import Derived.Test.YtbiefppedlodiaaGreatDoorAMp5
import Derived.Test.YtbiefppedlodiaaGreatDoorW6
import Derived.Test.YtbiefppedlodiaaGreatDoorW2
set_option linter.unusedSimpArgs false
set_option linter.unusedVariables false
open Nat renaming reduceLT → Na, reduceLeDiff → Nb, reduceEqDiff → Nc, reduceAdd → Nk, reduceMul → Nf, reducePow → Ng, reduceSub → Nh, reduceBEq → Nz
open Int renaming reduceLT → Za, reduceLE → Zb, reduceToNat → Zc
open And renaming intro → Ai
open Go.AM renaming ashift → Qa, aconv → Qb, aindexAddr → Qc, aindex → Qd, aslice → Qe, abuiltin → Qf, awp_reg_seq → wS, awp_reg_end → wE, awp_seq_k → wK, awp_cond_k → wC
open Go.AM.AV renaming cells → Qg, one → Qh
set_option maxRecDepth 100000
set_option maxHeartbeats 8000000
namespace Go.Proofs.YtbiefppedlodiaaGreatDoor
open Go Go.AM Go.Proofs Tryz
variable {Γ : Nat→List AV}
theorem zB (key : List UInt8) (hk : key.length = 16) (s : AS) :
  ai prog Γ 240 [.agg (key.map ah),.agg (Aes.sb.map ah)] s (fun r s'=>r = .agg ((lO key).map ah)∧s' = s):=by
 refine aa func240 rfl ntmps240 results240 (by simp) ?_;have tI : (key.map ah).length = 16:=(by rw [List.length_map,hk]);have Sr : List.take 16 (key.map ah) = key.map ah:=List.take_of_length_le (by omega);have Yp:=cd key;have tb : (Aes.sb.map ah).length = 256:=(by rw [List.length_map,Aes.qZ]);refine jS @z167 fun K hK=>?_;intro o2 pQ o3 zl;obtain ⟨nZ,zm⟩:=AS.eP zl;intro o4 B4;obtain ⟨OC,Il,uc⟩:=kx B4;refine hK _ _ ?_;clear hK K;refine jS @z167 fun K hK=>?_;intro o5 DV;obtain ⟨Gu,Ss,NZ,FM⟩:=u9 DV;refine hK _ _ ?_;clear hK K;generalize me : (((s.set o2 (key.map ah)).set o3 (Aes.sb.map ah)).set o4 (List.replicate 176 (bV 0))).set o5 (List.replicate 176 (bV 0)) = s0 at *
 have j2 : s0.av o2 = some (key.map ah):=(by rw [← me,AS.ao _ NZ.symm,AS.ao _ Il.symm,AS.ao _ nZ.symm,AS.ae]);have j3 : s0.av o3 = some (Aes.sb.map ah):=(by rw [← me,AS.ao _ Ss.symm,AS.ao _ OC.symm,AS.ae]);have j4 : s0.av o4 = some (List.replicate 176 (bV 0)):=(by rw [← me,AS.ao _ Gu.symm,AS.ae]);have j5 : s0.av o5 = some (List.replicate 176 (bV 0)):=(by rw [← me]; exact AS.ae _ _ _);have hle : s.le s0:=(by rw [← me]; exact AS.aE (AS.aE (AS.aE (AS.aE (AS.le.refl s) pQ _) zm _) uc _) FM _);clear me zl B4 DV;have rD : (List.replicate 176 (bV 0)).length = 176:=(by simp);rw [← ie (Aes.ak key) 176] at j5;generalize List.replicate 176 (bV 0) = Z at *
 have LC:=yo (Aes.ak key) (fun _=>0) 176 key 0 (fun k h=>by rw [Nat.zero_add,Aes.R6 k (by omega)]);rw [Nat.zero_add,hk] at LC;have ta:=da (Aes.ak key) (fun _=>0) 176 0;generalize a8 (Aes.ak key) (fun _=>0) 176 0 = R0 at *
 refine jB (Ai @j2 (Ai @j5 (Ai @tI (Ai @Sr (Ai @Yp (Ai @ta (Ai @LC (Ai @NZ (Ai @NZ.symm (show (0 : Int) < ((11 : Nat) : Int) from by decide)))))))))) ?_;clear LC;generalize ik : s0.set o5 (a8 (Aes.ak key) (fun _=>0) 176 16) = s1 at *
 have q3 : s1.av o3 = some (Aes.sb.map ah):=(by rw [← ik,AS.ao _ Ss.symm]; exact j3);have q4 : s1.av o4 = some Z:=(by rw [← ik,AS.ao _ Gu.symm]; exact j4);have q5 : s1.av o5 = some (a8 (Aes.ak key) (fun _=>0) 176 16):=(by rw [← ik]; exact AS.ae _ _ _);have qX : s.le s1:=(by rw [← ik]; exact AS.aE hle FM _);clear ik j2 j3 j4 j5 hle;refine jA ?_;refine wK fun K hK=>?_;refine jA ?_;refine ag ?_;refine aC (fun E s2=>∃ q : Nat,q≤10∧E 3 = .ptr o3 0∧E 4 = .ptr o4 0∧E 5 = .ptr o5 0∧E 6 = bV (Aes.IP q)∧E 7 = .v (.int .i64 ((q + 1 : Nat) : Int))∧s2.av o3 = some (Aes.sb.map ah)∧s2.av o4 = some Z∧s2.av o5 = some (a8 (Aes.ak key) (fun _=>0) 176 ((q + 1) * 16))∧s.le s2)
  (fun E _=>match E 7 with | .v (.int _ i)=>11 - i.toNat | _=>0) ?_ ?_
 ·exact ⟨0,by omega,rfl,rfl,rfl,rfl,rfl,q3,q4,q5,qX⟩
 ·clear q3 q4 q5 qX;rintro E1 s2 ⟨q,hq,e3,e4,e5,e6,e7,j3,j4,j5,hle⟩ -
  refine wK fun K2 aV=>?_;by_cases JQ : q < 10
  ·have hl:=Aes.re hk q;refine jB (Ai @e7 (decide_eq_true (show ((q + 1 : Nat) : Int)≤10 by omega))) ?_;refine jE ?_;refine ab ?_;refine aV _ _ ?_;clear aV K2;refine wK fun K3 br=>?_;refine ag ?_;have hld:=A1 key hk (fun _=>0) q ((q + 1) * 16) (by omega) (Nat.le_refl _);have oZ : dC .i64 ((q + 1 : Nat) : Int) 1 = ((q : Nat) : Int):=gi (q + 1) 1 (by omega) (by omega);have oW:=da (Aes.ak key) (fun _=>0) 176 ((q + 1) * 16);have Mc : ((Aes.kr key q).map ah).length = 16:=(by rw [List.length_map,hl]);have Yq:=cd (Aes.kr key q);have k0 : (0 : Int)≤((q : Nat) : Int):=(by omega);have k1 : ((q : Nat) : Int) < ((11 : Nat) : Int):=(by omega);have k2 : q * 16 + 16≤176:=(by omega);have zM : 16≤(List.drop (q * 16) (a8 (Aes.ak key) (fun _=>0) 176 ((q + 1) * 16))).length:=(by rw [List.length_drop,oW]; omega);generalize hO : a8 (Aes.ak key) (fun _=>0) 176 ((q + 1) * 16) = O at *
   generalize hW : (Aes.kr key q).map ah = W at *
   refine wS fun K hK=>?_;simp only [↓DN,Qa,Qb,Qc,Qd,Qe,Qf,Qg,Qh,reduceCtorEq,↓reduceIte,Na,Nb,Nc,Nk,Nf,Ng,Nh,Za,Zb,Zc,TT,e5,e7,oZ,j5,hld,Mc,Yq,k0,k1,k2,oW,zM,Nat.le_refl];intro o8 F3;rw [Qj,bA (List.replicate 16 (bV 0)) W (by rw [Mc]; simp)];refine hK _ _ ?_;clear hK K;have n83 : o8≠o3:=(fun e=>by rw [e,j3] at F3; cases F3);have n84 : o8≠o4:=(fun e=>by rw [e,j4] at F3; cases F3);have Ql : o8≠o5:=(fun e=>by rw [e,j5] at F3; cases F3);have hs8 : s.av o8 = none:=by
    cases h : s.av o8 with
    | none=>rfl
    | some cs=>rw [hle.av _ _ h] at F3; cases F3
   generalize Me : s2.set o8 W = s3 at *
   have q3 : s3.av o3 = some (Aes.sb.map ah):=(by rw [← Me,AS.ao _ n83.symm]; exact j3);have q4 : s3.av o4 = some Z:=(by rw [← Me,AS.ao _ n84.symm]; exact j4);have q5 : s3.av o5 = some O:=(by rw [← Me,AS.ao _ Ql.symm]; exact j5);have q8 : s3.av o8 = some W:=(by rw [← Me]; exact AS.ae _ _ _);have gb : s.le s3:=(by rw [← Me]; exact AS.aE hle hs8 _);clear Me j3 j4 j5 F3 hle;have k3 : (0 : Int)≤((q + 1 : Nat) : Int):=(by omega);have k4 : ((q + 1 : Nat) : Int) < ((11 : Nat) : Int):=(by omega);refine jB (Ai @e5 (Ai @e7 (Ai @k3 @k4))) ?_;rw [← hO,← LB key (fun _=>0) q] at q5;clear hld oW zM hO O;refine wK fun K4 ee=>?_;refine jA ?_;refine ag ?_;refine aC (fun E s4=>∃ i : Nat,i≤4∧E 3 = .ptr o3 0∧E 4 = .ptr o4 0∧E 5 = .ptr o5 0∧E 6 = bV (Aes.IP q)∧E 7 = .v (.int .i64 ((q + 1 : Nat) : Int))∧E 8 = .ptr o8 0∧E 9 = .ptr o5 ((q + 1) * 16)∧E 24 = .v (.int .i64 i)∧s4.av o3 = some (Aes.sb.map ah)∧s4.av o4 = some Z∧s4.av o5 = some (a8 (Cx key q) (fun _=>0) 176 ((q + 1) * 16 + i))∧s4.av o8 = some W∧s.le s4)
    (fun E _=>match E 24 with | .v (.int _ i)=>4 - i.toNat | _=>0) ?_ ?_
   ·exact ⟨0,by omega,e3,e4,e5,e6,e7,rfl,rfl,rfl,q3,q4,q5,q8,gb⟩
   ·clear q3 q4 q5 q8 gb;rintro E4 s4 ⟨i,hi,g3,g4,g5,g6,g7,g8,g9,g24,q3,q4,q5,q8,gb⟩ -
    by_cases aX : i < 4
    ·refine jB (Ai @g24 (decide_eq_true (show (i : Int) < 4 by omega))) ?_;refine wK fun K6 kV=>?_;refine jE ?_;refine ab ?_;refine kV _ _ ?_;clear kV K6;refine wK fun K7 GJ=>?_;refine ag ?_;refine jB @g24 ?_;have ck:=dH (Cx key q) (fun _=>0) 176 ((q + 1) * 16 + i) _ (OD key hk q i aX);have hlen:=da (Cx key q) (fun _=>0) 176 ((q + 1) * 16 + i);have a1:=Lv i (by omega);have a2:=OB (i + 1);have a3:=Yo ((i + 1) % 4) (by omega);have d0:=de (l:=Aes.kr key q) i (by omega);have d1:=de (l:=Aes.kr key q) (12 + (i + 1) % 4) (by omega);rw [hW] at d0 d1;have m0 : (0 : Int)≤(i : Int):=(by omega);have m1 : (i : Int) < ((16 : Nat) : Int):=(by omega);have m2 : (0 : Int)≤((12 + (i + 1) % 4 : Nat) : Int):=(by omega);have m3 : ((12 + (i + 1) % 4 : Nat) : Int) < ((16 : Nat) : Int):=(by omega);have mc : (q + 1) * 16 + i + 1≤176:=(by omega);have Yr : (q + 1) * 16 + i < 176:=(by omega);generalize F1 : a8 (Cx key q) (fun _=>0) 176 ((q + 1) * 16 + i + 1) = R' at *
     generalize a8 (Cx key q) (fun _=>0) 176 ((q + 1) * 16 + i) = R at *
     generalize 12 + (i + 1) % 4 = m at *
     have hx:=((Aes.kr key q).getD m 0).toNat_lt;have ds:=de (l:=Aes.sb) ((Aes.kr key q).getD m 0).toNat (by rw [Aes.qZ]; omega);rw [xbE] at ds;generalize Aes.S ((Aes.kr key q).getD m 0) = y at *
     generalize (Aes.kr key q).getD m 0 = x at *
     generalize (Aes.kr key q).getD i 0 = v at *
     have m4 : (0 : Int)≤((x.toNat : Nat) : Int):=(by omega);have m5 : ((x.toNat : Nat) : Int) < ((256 : Nat) : Int):=(by omega);generalize Zm : Aes.sb.map ah = Y2 at *
     refine cH T.mixed [(o8,W),(o3,Y2),(o5,R)] [] [4,10,12] [16] (by kernel_rfl) (by simp only [aG,aJ,and_true]; simp [AS.set,aF,q3,q5,q8]) ?_;intro K hK;simp only [↓bp,↓a7,dh,dd,aO,aS,aG,aJ,List.any_cons,List.any_nil,List.contains_cons,List.contains_nil,Nat.reduceBEq,Bool.or_false,Bool.or_true,Bool.or_self,Bool.false_or,↓DN,Qa,Qb,Qc,Qd,Qe,Qf,Qg,Qh,reduceCtorEq,↓reduceIte,Na,Nb,Nc,Nk,Nf,Ng,Nh,Za,Zb,Zc,TT,g3,g5,g8,g9,g24,m0,m1,m2,m3,m4,m5,mc,Yr,d0,d1,ds,a1,a2,a3,v8,n83,n83.symm,Ql,Ql.symm,Ss,Ss.symm,q3,q5,q8,ah,nU,ck,hlen,Mc,tb];refine hK _ _ ?_;clear hK K;simp only [ar,az,if_true,if_false];refine GJ _ _ ?_;clear GJ K7;refine jD (Ai @g24 (cE i (by omega))) ?_;refine ⟨⟨i + 1,by omega,g3,g4,g5,g6,g7,g8,g9,rfl,by rw [AS.ao _ Ss.symm,q3],by rw [AS.ao _ Gu.symm]; exact q4,by rw [show (q + 1) * 16 + (i + 1) = (q + 1) * 16 + i + 1 from rfl,F1]; exact AS.ae _ _ _,by rw [AS.ao _ Ql]; exact q8,AS.aE gb FM _⟩,?_⟩;simp only [g24,aF,↓reduceIte];omega
    ·obtain rfl : i = 4:=(by omega);refine jB (Ai @g24 (decide_eq_false (show ¬ ((4 : Nat) : Int) < 4 by decide))) ?_;refine wK fun K6 kV=>?_;refine jF ?_;refine aA ?_;simp only [az,ar,if_true];clear kV K6;refine ee _ _ ?_;clear ee K4;have Ys:=OE key (fun _=>0) q JQ;have W5:=ns (Cx key q) (fun _=>0) 176 ((q + 1) * 16 + 4) ((q + 1) * 16) (by omega);rw [if_pos (by omega)] at W5;have hlen:=da (Cx key q) (fun _=>0) 176 ((q + 1) * 16 + 4);generalize F1 : a8 (Aes.ak key) (fun _=>0) 176 ((q + 1) * 16 + 4) = R' at *
     generalize a8 (Cx key q) (fun _=>0) 176 ((q + 1) * 16 + 4) = R at *
     generalize Cx key q ((q + 1) * 16) = x at *
     have mc : (q + 1) * 16 + 1≤176:=(by omega);have Yr : (q + 1) * 16 < 176:=(by omega);refine dL T.mixed [(o5,R)] [] [3] [8] (by kernel_rfl) (by simp only [aG,aJ,and_true]; simp [AS.set,aF,q5]) ?_;intro K hK;simp only [↓bp,↓a7,dh,dd,aO,aS,aG,aJ,List.any_cons,List.any_nil,List.contains_cons,List.contains_nil,Nat.reduceBEq,Bool.or_false,Bool.or_true,Bool.or_self,Bool.false_or,↓DN,Qa,Qb,Qc,Qd,Qe,Qf,Qg,Qh,reduceCtorEq,↓reduceIte,Na,Nb,Nc,Nk,Nf,Ng,Nh,Za,Zb,Zc,TT,g6,g9,mc,Yr,q5,W5,ah,nU,Ys,hlen,show (0 : Int) < ((16 : Nat) : Int) from by decide];refine hK _ _ ?_;clear hK K;generalize Hc : s4.set o5 R' = s5 at *
     have t3 : s5.av o3 = some (Aes.sb.map ah):=(by rw [← Hc,AS.ao _ Ss.symm]; exact q3);have t4 : s5.av o4 = some Z:=(by rw [← Hc,AS.ao _ Gu.symm]; exact q4);have t5 : s5.av o5 = some R':=(by rw [← Hc]; exact AS.ae _ _ _);have t8 : s5.av o8 = some W:=(by rw [← Hc,AS.ao _ Ql]; exact q8);have gp : s.le s5:=(by rw [← Hc]; exact AS.aE gb FM _);clear Hc q3 q4 q5 q8 gb W5 Ys hlen;rw [← F1] at t5;clear F1 R';refine wK fun K4 ee=>?_;refine jA ?_;refine ag ?_;refine aC (fun E s6=>∃ i : Nat,4≤i∧i≤16∧E 3 = .ptr o3 0∧E 4 = .ptr o4 0∧E 5 = .ptr o5 0∧E 6 = bV (Aes.IP q)∧E 7 = .v (.int .i64 ((q + 1 : Nat) : Int))∧E 8 = .ptr o8 0∧E 9 = .ptr o5 ((q + 1) * 16)∧E 11 = .v (.int .i64 i)∧s6.av o3 = some (Aes.sb.map ah)∧s6.av o4 = some Z∧s6.av o5 = some (a8 (Aes.ak key) (fun _=>0) 176 ((q + 1) * 16 + i))∧s6.av o8 = some W∧s.le s6)
      (fun E _=>match E 11 with | .v (.int _ i)=>16 - i.toNat | _=>0) ?_ ?_
     ·exact ⟨4,by omega,by omega,g3,g4,g5,g6,g7,g8,g9,rfl,t3,t4,t5,t8,gp⟩
     ·clear t3 t4 t5 t8 gp g3 g4 g5 g6 g7 g8 g9;rintro E6 s6 ⟨i,ZH,hi,g3,g4,g5,g6,g7,g8,g9,g11,t3,t4,t5,t8,gp⟩ -
      refine wK fun K6 kV=>?_;by_cases aX : i < 16
      ·refine jB (Ai @g11 (decide_eq_true (show (i : Int) < 16 by omega))) ?_;refine jE ?_;refine ab ?_;refine kV _ _ ?_;clear kV K6;refine wK fun K7 GJ=>?_;refine ag ?_;have ck:=dH (Aes.ak key) (fun _=>0) 176 ((q + 1) * 16 + i) _ (Iz key hk q i ZH aX);have hlen:=da (Aes.ak key) (fun _=>0) 176 ((q + 1) * 16 + i);have a1 : dC .i64 (i : Int) 4 = ((i - 4 : Nat) : Int):=gi i 4 ZH (by omega);have d0:=de (l:=Aes.kr key q) i (by omega);rw [hW] at d0;have d1:=ns (Aes.ak key) (fun _=>0) 176 ((q + 1) * 16 + i) ((q + 1) * 16 + (i - 4)) (by omega);rw [if_pos (by omega)] at d1;have m0 : (0 : Int)≤(i : Int):=(by omega);have m1 : (i : Int) < ((16 : Nat) : Int):=(by omega);have m2 : (0 : Int)≤((i - 4 : Nat) : Int):=(by omega);have m3 : ((i - 4 : Nat) : Int) < ((16 : Nat) : Int):=(by omega);have mc : (q + 1) * 16 + i + 1≤176:=(by omega);have Yr : (q + 1) * 16 + i < 176:=(by omega);generalize F1 : a8 (Aes.ak key) (fun _=>0) 176 ((q + 1) * 16 + i + 1) = R' at *
       generalize a8 (Aes.ak key) (fun _=>0) 176 ((q + 1) * 16 + i) = R at *
       generalize Aes.ak key ((q + 1) * 16 + (i - 4)) = x at *
       generalize (Aes.kr key q).getD i 0 = v at *
       refine cH T.mixed [(o8,W),(o5,R)] [] [4,10] [14] (by kernel_rfl) (by simp only [aG,aJ,and_true]; simp [AS.set,aF,t5,t8]) ?_;intro K hK;simp only [↓bp,↓a7,dh,dd,aO,aS,aG,aJ,List.any_cons,List.any_nil,List.contains_cons,List.contains_nil,Nat.reduceBEq,Bool.or_false,Bool.or_true,Bool.or_self,Bool.false_or,↓DN,Qa,Qb,Qc,Qd,Qe,Qf,Qg,Qh,reduceCtorEq,↓reduceIte,Na,Nb,Nc,Nk,Nf,Ng,Nh,Za,Zb,Zc,TT,g5,g8,g9,g11,m0,m1,m2,m3,mc,Yr,d0,d1,a1,Ql,Ql.symm,t5,t8,ah,nU,ck,hlen,Mc];refine hK _ _ ?_;clear hK K;simp only [ar,az,if_true,if_false];refine GJ _ _ ?_;clear GJ K7;refine jD (Ai @g11 (cE i (by omega))) ?_;refine ⟨⟨i + 1,by omega,by omega,g3,g4,g5,g6,g7,g8,g9,rfl,by rw [AS.ao _ Ss.symm]; exact t3,by rw [AS.ao _ Gu.symm]; exact t4,by rw [show (q + 1) * 16 + (i + 1) = (q + 1) * 16 + i + 1 from rfl,F1]; exact AS.ae _ _ _,by rw [AS.ao _ Ql]; exact t8,AS.aE gp FM _⟩,?_⟩;simp only [g11,aF,↓reduceIte];omega
      ·obtain rfl : i = 16:=(by omega);refine jB (Ai @g11 (decide_eq_false (show ¬ ((16 : Nat) : Int) < 16 by decide))) ?_;refine jF ?_;refine aA ?_;simp only [az,ar,if_true];clear kV K6;refine ee _ _ ?_;clear ee K4;refine jU @g6 fun K hK=>?_;refine ad (ko (Aes.IP q) _) ?_;rintro r s7 ⟨rfl,rfl⟩;simp only [↓cj,↓bM,bY,↓bp,↓a7,dh,dd,aO,aS,aG,aJ,List.any_cons,List.any_nil,DX,Nat.reduceBEq,↓DN,Qa,Qb,Qc,Qd,Qe,Qf,Qg,Qh,reduceCtorEq,↓reduceIte,Na,Nb,Nc,Nk,Nf,Ng,Nh,Za,Zb,Zc,TT];refine hK _ _ ?_;clear hK K;simp only [ar,az,if_true,if_false];refine br _ _ ?_;clear br K3;refine jD (Ai @g7 (cE (q + 1) (by omega))) ?_;refine ⟨⟨q + 1,by omega,g3,g4,g5,rfl,rfl,t3,t4,by rw [show (q + 1 + 1) * 16 = (q + 1) * 16 + 16 by omega]; exact t5,gp⟩,?_⟩;simp only [e7,aF,↓reduceIte];omega
  ·obtain rfl : q = 10:=(by omega);refine jB (Ai @e7 (decide_eq_false (show ¬ ((10 + 1 : Nat) : Int)≤10 by decide))) ?_;refine jF ?_;refine aA ?_;simp only [az,ar,if_true];clear aV K2;refine hK _ _ ?_;clear hK K;rw [show (10 + 1) * 16 = 176 from rfl,fq,show (List.range 176).map (Aes.ak key) = lO key from rfl] at j5;have yC : ((lO key).map ah).length = 176:=(by rw [List.length_map,A0]);have bR:=cd (lO key);have dN : List.take 176 ((lO key).map ah) = (lO key).map ah:=List.take_of_length_le (by omega);generalize (lO key).map ah = X at *
   refine jS (Ai @e4 (Ai @e5 (Ai @j4 (Ai @j5 (Ai @yC (Ai @dN (Ai @bR (Ai @Gu @Gu.symm)))))))) fun K hK=>?_;rw [bA Z X (by omega)];refine ⟨by omega,hK _ _ ?_⟩;clear hK K;refine aW ?_;refine ev (v:=.agg X) (o:=o4) (off:=0) e4 (AS.ae _ _ _) (by rw [T.Q8]; decide) (by simp only [↓DN,Qa,Qb,Qc,Qd,Qe,Qf,Qg,Qh,reduceCtorEq,↓reduceIte,Na,Nb,Nc,Nk,Nf,Ng,Nh,Za,Zb,Zc,TT,yC,dN]) ?_;exact ⟨_,s,AV.aB.refl _,AS.aE hle uc _,rfl,rfl⟩
theorem OG (key : List UInt8) (hk : key.length = 16) (q : Nat) (hq : q < 11) : List.take 16 (List.drop (q * 16) ((lO key).map ah)) = (Aes.kr key q).map ah:=by
 have h:=A1 key hk (fun _=>0) q 176 hq (by omega);rw [fq] at h;exact h
theorem yp (key b : List UInt8) (hk : key.length = 16) (hb : b.length = 16) (s : AS) :
  ai prog Γ 218 [.agg (key.map ah),.agg (b.map ah)] s (fun r s'=>r = .agg ((Aes.block key b).map ah)∧s' = s):=by
 refine aa func218 rfl ntmps218 results218 (by simp) ?_;have tI : (key.map ah).length = 16:=(by rw [List.length_map,hk]);have Sr : List.take 16 (key.map ah) = key.map ah:=List.take_of_length_le (by omega);have FP : (b.map ah).length = 16:=(by rw [List.length_map,hb]);have xbG : List.take 16 (b.map ah) = b.map ah:=List.take_of_length_le (by omega);have tb : (Aes.sb.map ah).length = 256:=(by rw [List.length_map,Aes.qZ]);have Su : List.take 256 (Aes.sb.map ah) = Aes.sb.map ah:=List.take_of_length_le (by omega);have Yt:=cd Aes.sb;have Qm : ((lO key).map ah).length = 176:=(by rw [List.length_map,A0]);have Yu:=cd (lO key);have Yv:=OG key hk;have hex:=fun s=>zB (Γ:=Γ) key hk s;have hbx:=fun s=>D8 (Γ:=Γ) s;have had:=fun s=>sT (Γ:=Γ) b (Aes.kr key 0) hb (Aes.re hk 0) s;rw [show Aes.add b (Aes.kr key 0) = Aes.state key b 0 from rfl] at had;have QE:=fun q s=>yn (Γ:=Γ) (Aes.state key b q) (Aes.mE key b q) (q + 1 == 10) s;have PG:=fun q s=>sT (Γ:=Γ) (Aes.GX (Aes.state key b q) (q + 1 == 10)) (Aes.kr key (q + 1)) (Aes.Cb _ _) (Aes.re hk (q + 1)) s;have iG : ∀ q,Aes.add (Aes.GX (Aes.state key b q) (q + 1 == 10)) (Aes.kr key (q + 1)) = Aes.state key b (q + 1):=fun q=>rfl;simp only [iG] at PG;have WC : List.take 16 ((lO key).map ah) = (Aes.kr key 0).map ah:=by
  have:=Yv 0 (by omega);rwa [Nat.zero_mul,List.drop_zero] at this
 generalize Aes.sb.map ah = Y at *
 generalize (lO key).map ah = KS at *
 refine jQ fun K hK=>?_;intro o2 pQ o3 zl;obtain ⟨nZ,zm⟩:=AS.eP zl;intro o4 B4;obtain ⟨OC,Il,uc⟩:=kx B4;rw [Qj];refine hK _ _ ?_;clear hK K;generalize me : ((s.set o2 (key.map ah)).set o3 (b.map ah)).set o4 (List.replicate 16 (bV 0)) = s0 at *
 have j2 : s0.av o2 = some (key.map ah):=(by rw [← me,AS.ao _ Il.symm,AS.ao _ nZ.symm,AS.ae]);have j3 : s0.av o3 = some (b.map ah):=(by rw [← me,AS.ao _ OC.symm,AS.ae]);have j4 : s0.av o4 = some (List.replicate 16 (bV 0)):=(by rw [← me]; exact AS.ae _ _ _);have hle : s.le s0:=(by rw [← me]; exact AS.aE (AS.aE (AS.aE (AS.le.refl s) pQ _) zm _) uc _);clear me zl B4;have rD : (List.replicate 16 (bV 0)).length = 16:=(by simp);generalize List.replicate 16 (bV 0) = Z at *
 refine jQ fun K hK=>?_;refine ad (hbx _) ?_;rintro r s1 ⟨rfl,rfl⟩;simp only [↓DM,bY,DX,Nz,↓DN,Qa,Qb,Qc,Qd,Qe,Qf,Qg,Qh,reduceCtorEq,↓reduceIte,Na,Nb,Nc,Nk,Nf,Ng,Nh,Za,Zb,Zc,TT,Sm,tb,Yt,Nat.le_refl,List.length_replicate];intro o5 DV;rw [bA (List.replicate 256 (bV 0)) Y (by rw [tb]; simp)];refine hK _ _ ?_;clear hK K;have n52 : o5≠o2:=(fun e=>by rw [e,j2] at DV; cases DV);have n53 : o5≠o3:=(fun e=>by rw [e,j3] at DV; cases DV);have n54 : o5≠o4:=(fun e=>by rw [e,j4] at DV; cases DV);have Hc : s.av o5 = none:=by
  cases h : s.av o5 with
  | none=>rfl
  | some cs=>rw [hle.av _ _ h] at DV; cases DV
 generalize ik : s1.set o5 Y = s2 at *
 have q2 : s2.av o2 = some (key.map ah):=(by rw [← ik,AS.ao _ n52.symm]; exact j2);have q3 : s2.av o3 = some (b.map ah):=(by rw [← ik,AS.ao _ n53.symm]; exact j3);have q4 : s2.av o4 = some Z:=(by rw [← ik,AS.ao _ n54.symm]; exact j4);have q5 : s2.av o5 = some Y:=(by rw [← ik]; exact AS.ae _ _ _);have eQ : s.le s2:=(by rw [← ik]; exact AS.aE hle Hc _);clear ik j2 j3 j4 hle DV;refine jS (Ai @q2 (Ai @q5 (Ai @tI (Ai @Sr (Ai @tb (Ai @Su @Nat.le_refl)))))) fun K hK=>?_;refine ad (hex _) ?_;rintro r s3 ⟨rfl,rfl⟩;simp only [↓DM,bY,DX,Nz,↓DN,Qa,Qb,Qc,Qd,Qe,Qf,Qg,Qh,reduceCtorEq,↓reduceIte,Na,Nb,Nc,Nk,Nf,Ng,Nh,Za,Zb,Zc,TT,z167,Qm,Yu,Nat.le_refl,List.length_replicate];intro o6 IQ;rw [bA (List.replicate 176 (bV 0)) KS (by rw [Qm]; simp)];refine hK _ _ ?_;clear hK K;have n63 : o6≠o3:=(fun e=>by rw [e,q3] at IQ; cases IQ);have n64 : o6≠o4:=(fun e=>by rw [e,q4] at IQ; cases IQ);have Yw : o6≠o5:=(fun e=>by rw [e,q5] at IQ; cases IQ);have hs6 : s.av o6 = none:=by
  cases h : s.av o6 with
  | none=>rfl
  | some cs=>rw [eQ.av _ _ h] at IQ; cases IQ
 generalize ik : s3.set o6 KS = s4 at *
 have t3 : s4.av o3 = some (b.map ah):=(by rw [← ik,AS.ao _ n63.symm]; exact q3);have t4 : s4.av o4 = some Z:=(by rw [← ik,AS.ao _ n64.symm]; exact q4);have t5 : s4.av o5 = some Y:=(by rw [← ik,AS.ao _ Yw.symm]; exact q5);have t6 : s4.av o6 = some KS:=(by rw [← ik]; exact AS.ae _ _ _);have ib : s.le s4:=(by rw [← ik]; exact AS.aE eQ hs6 _);clear ik q2 q3 q4 q5 eQ IQ;have hB0:=cd (Aes.state key b 0);have Sv : ((Aes.state key b 0).map ah).length = 16:=(by rw [List.length_map,Aes.mE]);refine wS fun K hK=>?_;simp only [↓DN,Qa,Qb,Qc,Qd,Qe,Qf,Qg,Qh,reduceCtorEq,↓reduceIte,Na,Nb,Nc,Nk,Nf,Ng,Nh,Za,Zb,Zc,TT,t3,t6,FP,xbG,Qm,WC,show (0 : Int) < ((11 : Nat) : Int) from by decide];refine ad (had _) ?_;rintro r s5 ⟨rfl,rfl⟩;refine jN (Ai @hB0 (Ai @Sv @Nat.le_refl)) ?_;intro o7 Cw;rw [Qj,bA (List.replicate 16 (bV 0)) ((Aes.state key b 0).map ah) (by rw [Sv]; simp)];refine hK _ _ ?_;clear hK K;have ZI : o7≠o4:=(fun e=>by rw [e,t4] at Cw; cases Cw);have Tk : o7≠o5:=(fun e=>by rw [e,t5] at Cw; cases Cw);have Tl : o7≠o6:=(fun e=>by rw [e,t6] at Cw; cases Cw);have Qn : s.av o7 = none:=by
  cases h : s.av o7 with
  | none=>rfl
  | some cs=>rw [ib.av _ _ h] at Cw; cases Cw
 generalize ik : s5.set o7 ((Aes.state key b 0).map ah) = s6 at *
 have j4 : s6.av o4 = some Z:=(by rw [← ik,AS.ao _ ZI.symm]; exact t4);have j5 : s6.av o5 = some Y:=(by rw [← ik,AS.ao _ Tk.symm]; exact t5);have j6 : s6.av o6 = some KS:=(by rw [← ik,AS.ao _ Tl.symm]; exact t6);have j7 : s6.av o7 = some ((Aes.state key b 0).map ah):=(by rw [← ik]; exact AS.ae _ _ _);have mD : s.le s6:=(by rw [← ik]; exact AS.aE ib Qn _);clear ik t3 t4 t5 t6 ib Cw hB0 Sv;refine wK fun K hK=>?_;refine jA ?_;refine ag ?_;refine aC (fun E s2=>∃ q : Nat,q≤10∧E 4 = .ptr o4 0∧E 5 = .ptr o5 0∧E 6 = .ptr o6 0∧E 7 = .ptr o7 0∧E 8 = .v (.int .i64 ((q + 1 : Nat) : Int))∧s2.av o4 = some Z∧s2.av o5 = some Y∧s2.av o6 = some KS∧s2.av o7 = some ((Aes.state key b q).map ah)∧s.le s2)
  (fun E _=>match E 8 with | .v (.int _ i)=>11 - i.toNat | _=>0) ?_ ?_
 ·exact ⟨0,by omega,rfl,rfl,rfl,rfl,rfl,j4,j5,j6,j7,mD⟩
 ·clear j4 j5 j6 j7 mD;rintro E1 s7 ⟨q,hq,e4,e5,e6,e7,e8,j4,j5,j6,j7,hle⟩ -
  refine wK fun K2 aV=>?_;by_cases JQ : q < 10
  ·refine jB (Ai @e8 (decide_eq_true (show ((q + 1 : Nat) : Int)≤10 by omega))) ?_;refine jE ?_;refine ab ?_;refine aV _ _ ?_;clear aV K2;refine wK fun K3 br=>?_;refine ag ?_;have heq : (((q + 1 : Nat) : Int) == 10) = (q + 1 == 10):=by
    by_cases h : q + 1 = 10
    ·rw [h]; rfl
    ·rw [show (q + 1 == 10) = false by simpa using h];simp; omega
   have xbI:=QE q;have xbJ:=PG q;have hKq:=Yv (q + 1) (by omega);have hKd : 16≤(List.drop ((q + 1) * 16) KS).length:=(by rw [List.length_drop,Qm]; omega);have RN : ((Aes.state key b q).map ah).length = 16:=(by rw [List.length_map,Aes.mE]);have Yx : List.take 16 ((Aes.state key b q).map ah) = (Aes.state key b q).map ah:=List.take_of_length_le (by omega);have hNl : ((Aes.state key b (q + 1)).map ah).length = 16:=(by rw [List.length_map,Aes.mE]);have Yy:=cd (Aes.state key b (q + 1));generalize hN : (Aes.state key b (q + 1)).map ah = NB at *
   generalize (Aes.state key b q).map ah = SB at *
   generalize (Aes.kr key (q + 1)).map ah = KQ at *
   have m0 : (0 : Int)≤((q + 1 : Nat) : Int):=(by omega);have m1 : ((q + 1 : Nat) : Int) < ((11 : Nat) : Int):=(by omega);refine cH T.mixed [(o7,SB),(o5,Y),(o6,KS)] [4,8] [0,1,7] [9] (by kernel_rfl) (by simp only [aG,aJ,and_true]; simp [AS.set,aF,j5,j6,j7]) ?_;intro K hK;simp only [↓bp,↓a7,dh,dd,aO,aS,aG,aJ,List.any_cons,List.any_nil,List.contains_cons,List.contains_nil,Nat.reduceBEq,Bool.or_false,Bool.or_true,Bool.or_self,Bool.false_or,↓DN,Qa,Qb,Qc,Qd,Qe,Qf,Qg,Qh,reduceCtorEq,↓reduceIte,Na,Nb,Nc,Nk,Nf,Ng,Nh,Za,Zb,Zc,TT,e5,e6,e7,e8,heq,j5,j6,j7,m0,m1,tb,Su,Qm,hKq,hKd,RN,Yx,Tk,Tk.symm,Tl,Tl.symm,Yw,Yw.symm,Nat.le_refl];refine ad (xbI _) ?_;rintro r sa ⟨rfl,rfl⟩;simp only [↓cj,↓bM,bY,↓bp,↓a7,dh,dd,aO,aS,aG,aJ,List.any_cons,List.any_nil,DX,Nat.reduceBEq,↓DN,Qa,Qb,Qc,Qd,Qe,Qf,Qg,Qh,reduceCtorEq,↓reduceIte,Na,Nb,Nc,Nk,Nf,Ng,Nh,Za,Zb,Zc,TT,e5,e6,e7,e8,heq,j5,j6,j7,m0,m1,tb,Su,Qm,hKq,hKd,RN,Yx,Tk,Tk.symm,Tl,Tl.symm,Yw,Yw.symm,Nat.le_refl];refine ad (xbJ _) ?_;rintro r sb ⟨rfl,rfl⟩;simp only [↓cj,↓bM,bY,↓bp,↓a7,dh,dd,aO,aS,aG,aJ,List.any_cons,List.any_nil,DX,Nat.reduceBEq,↓DN,Qa,Qb,Qc,Qd,Qe,Qf,Qg,Qh,reduceCtorEq,↓reduceIte,Na,Nb,Nc,Nk,Nf,Ng,Nh,Za,Zb,Zc,TT,e7,j7,RN,hNl,Yy,Nat.le_refl];refine ⟨⟨j5,j6⟩,?_⟩;rw [bA SB NB (by omega)];refine hK _ _ ?_;clear hK K;simp only [ar,az,if_true,if_false];refine br _ _ ?_;clear br K3;refine jD (Ai @e8 (cE (q + 1) (by omega))) ?_;refine ⟨⟨q + 1,by omega,e4,e5,e6,e7,rfl,by rw [AS.ao _ ZI.symm]; exact j4,by rw [AS.ao _ Tk.symm]; exact j5,by rw [AS.ao _ Tl.symm]; exact j6,by rw [hN]; exact AS.ae _ _ _,AS.aE hle Qn _⟩,?_⟩;simp only [e8,aF,↓reduceIte];omega
  ·obtain rfl : q = 10:=(by omega);refine jB (Ai @e8 (decide_eq_false (show ¬ ((10 + 1 : Nat) : Int)≤10 by decide))) ?_;refine jF ?_;refine aA ?_;simp only [az,ar,if_true];clear aV K2;refine hK _ _ ?_;clear hK K;rw [show Aes.state key b 10 = Aes.block key b from rfl] at j7;have yC : ((Aes.block key b).map ah).length = 16:=(by rw [List.length_map,Aes.AP]);have bR:=cd (Aes.block key b);have dN : List.take 16 ((Aes.block key b).map ah) = (Aes.block key b).map ah:=List.take_of_length_le (by omega);generalize (Aes.block key b).map ah = X at *
   refine jS (Ai @e4 (Ai @e7 (Ai @j4 (Ai @j7 (Ai @yC (Ai @dN (Ai @bR (Ai @ZI (Ai @ZI.symm @Nat.le_refl))))))))) fun K hK=>?_;rw [bA Z X (by omega)];refine ⟨by omega,hK _ _ ?_⟩;clear hK K;refine aW ?_;refine ev (v:=.agg X) (o:=o4) (off:=0) e4 (AS.ae _ _ _) (by rw [T.JI]; decide) (by simp only [↓DN,Qa,Qb,Qc,Qd,Qe,Qf,Qg,Qh,reduceCtorEq,↓reduceIte,Na,Nb,Nc,Nk,Nf,Ng,Nh,Za,Zb,Zc,TT,yC,dN]) ?_;exact ⟨_,s,AV.aB.refl _,AS.aE hle uc _,rfl,rfl⟩
abbrev nV (n : Nat) : AV:=.v (.int .i64 (n : Int))
def xhm (s : AS) (cs : List AV) (r : AV) (s' : AS) : Prop :=
  s.le s'∧((cs = []∧r = .v (.slice none 0 0))∨∃ t e,s.own t = none∧s'.own t = some e∧r = .sl 1 cs.length cs (.own t e))
theorem Yz : ∀ x : AV,List.replicate 4 x = [x,x,x,x]:=fun _=>rfl
def mm (x : UInt8) (j : Nat) : UInt8:=if j = 0 then Aes.Ml x else if j = 1 then Aes.Ml x ^^^ x else x
def acc (c : Nat→UInt8) (row : Nat) : Nat→UInt8
  | 0=>0
  | k + 1=>acc c row k ^^^ mm (c k) ((k + 4 - row) % 4)
end Go.Proofs.YtbiefppedlodiaaGreatDoor
namespace Go.AM
def PP : Nat:=2305843009213693951
theorem LD (n : Nat) : n &&& 2305843009213693951 = n % 2305843009213693952:=by
  have:=Nat.and_two_pow_sub_one_eq_mod n 61;simpa using this
def Ci (n : Int) : Int :=
  let m:=dP .u64 (ll .u64 n 2305843009213693951) (eC .u64 n 61)
  if m ≥ 2305843009213693951 then dC .u64 m 2305843009213693951 else m
theorem LF (n : Nat) (h : n < 2 ^ 64) : dP .u64 (ll .u64 (n : Int) 2305843009213693951) (eC .u64 (n : Int) 61) = ((n % 2305843009213693952 + n / 2305843009213693952 : Nat) : Int):=by
  have e1 : ll .u64 (n : Int) 2305843009213693951 = ((n &&& 2305843009213693951 : Nat) : Int):=qD (k:=.u64) rfl n 2305843009213693951 h (by decide);have e2 : eC .u64 (n : Int) 61 = ((n / 2 ^ 61 : Nat) : Int):=by
    have:=gL (k:=.u64) n 61;simpa [IntKind.bits] using this
  rw [e1,e2,th rfl,LD,show IntKind.u64.bits = 64 from rfl];exact congrArg (fun x : Nat=>(x : Int)) (by omega)
theorem F4 (n : Nat) (h : n < 2 ^ 64) : Ci n = ((n % PP : Nat) : Int):=by
  unfold Ci PP;rw [LF n h];simp only;split
  · rename_i hc;have OT : 2305843009213693951≤n % 2305843009213693952 + n / 2305843009213693952:=(by omega);have:=zV (k:=.u64) rfl (n % 2305843009213693952 + n / 2305843009213693952) 2305843009213693951 OT (by simp only [IntKind.bits]; omega);rw [show (2305843009213693951 : Int) = ((2305843009213693951 : Nat) : Int) from rfl,this];exact congrArg (fun x : Nat=>(x : Int)) (by omega)
  · rename_i hc;exact congrArg (fun x : Nat=>(x : Int)) (by omega)
theorem LG (x1 x0 y1 y0 : Nat) (h1 : x1 < 4294967296) (h2 : x0 < 4294967296) (h3 : y1 < 4294967296) (h4 : y0 < 4294967296) :
    x1 * y1 + (x1 * y0 + x0 * y0 / 4294967296) / 4294967296 + ((x1 * y0 + x0 * y0 / 4294967296) % 4294967296 + x0 * y1) / 4294967296 = (x1 * 4294967296 + x0) * (y1 * 4294967296 + y0) / 18446744073709551616:=by
  have e : (x1 * 4294967296 + x0) * (y1 * 4294967296 + y0) = x1 * y1 * 18446744073709551616 + (x1 * y0 + x0 * y1) * 4294967296 + x0 * y0:=by
    simp only [Nat.add_mul,Nat.mul_add];have a1 : x1 * 4294967296 * (y1 * 4294967296) = x1 * y1 * 18446744073709551616:=by
      rw [Nat.mul_mul_mul_comm]
    have a2 : x0 * (y1 * 4294967296) = x0 * y1 * 4294967296:=(by rw [Nat.mul_assoc]);have a3 : x1 * 4294967296 * y0 = x1 * y0 * 4294967296:=(by rw [Nat.mul_right_comm]);omega
  rw [e];generalize x1 * y1 = A;generalize x1 * y0 = B;generalize x0 * y1 = C;generalize x0 * y0 = D;omega
theorem sU {a b : Nat} (ha : a < 4294967296) (hb : b < 4294967296) : a * b≤18446744065119617025:=by
  have : a * b≤4294967295 * 4294967295:=Nat.mul_le_mul (by omega) (by omega);omega
theorem Sw (n : Nat) : n &&& 4294967295 = n % 4294967296:=by
  have:=Nat.and_two_pow_sub_one_eq_mod n 32;simpa using this
theorem uo (n : Nat) (h : n < 2 ^ 64) : ll .u64 (n : Int) 4294967295 = ((n % 4294967296 : Nat) : Int):=by
  have:=qD (k:=.u64) rfl n 4294967295 h (by decide);rw [Sw] at this;exact this
theorem mG (n : Nat) : eC .u64 (n : Int) 32 = ((n / 4294967296 : Nat) : Int):=by
  have:=gL (k:=.u64) n 32;simpa [IntKind.bits] using this
theorem nw (a b : Nat) (h : a + b < 2 ^ 64) : dP .u64 (a : Int) b = ((a + b : Nat) : Int):=by
  rw [th rfl]; simp only [IntKind.bits]; rw [Nat.mod_eq_of_lt h]
theorem we (a b : Nat) (h : a * b < 2 ^ 64) : iF .u64 (a : Int) b = ((a * b : Nat) : Int):=by
  rw [Bh rfl]; simp only [IntKind.bits]; rw [Nat.mod_eq_of_lt h]
theorem LH (a b : Nat) : iF .u64 (a : Int) b = ((a * b % 18446744073709551616 : Nat) : Int):=by
  rw [Bh rfl]; rfl
theorem OH (q : Nat) (h : q < 2 ^ 122) : dP .u64 (ll .u64 ((q % 18446744073709551616 : Nat) : Int) 2305843009213693951) (EA .u64 (jl .u64 ((q / 18446744073709551616 : Nat) : Int) 3) (eC .u64 ((q % 18446744073709551616 : Nat) : Int) 61)) =
    ((q % 2305843009213693952 + q / 2305843009213693952 : Nat) : Int):=by
  have e1:=qD (k:=.u64) rfl (q % 18446744073709551616) 2305843009213693951 (by simp only [IntKind.bits]; omega) (by decide);have e2 : eC .u64 ((q % 18446744073709551616 : Nat) : Int) 61 = ((q % 18446744073709551616 / 2305843009213693952 : Nat) : Int):=by
    have:=gL (k:=.u64) (q % 18446744073709551616) 61;simpa [IntKind.bits] using this
  have e3 : jl .u64 ((q / 18446744073709551616 : Nat) : Int) 3 = ((8 * (q / 18446744073709551616) : Nat) : Int):=by
    have:=qE (k:=.u64) rfl (q / 18446744073709551616) 3;rw [show (3 : Int) = ((3 : Nat) : Int) from rfl,this,show min 3 IntKind.u64.bits = 3 from rfl,show IntKind.u64.bits = 64 from rfl];exact congrArg (fun x : Nat=>(x : Int)) (by omega)
  rw [e2,e3,show (2305843009213693951 : Int) = ((2305843009213693951 : Nat) : Int) from rfl,e1,LD,zW rfl _ _ (by simp only [IntKind.bits]; omega) (by simp only [IntKind.bits]; omega)];have e4 : 8 * (q / 18446744073709551616) ||| q % 18446744073709551616 / 2305843009213693952 = 8 * (q / 18446744073709551616) + q % 18446744073709551616 / 2305843009213693952:=by
    have:=Nat.two_pow_add_eq_or_of_lt (i:=3) (b:=q % 18446744073709551616 / 2305843009213693952) (by omega) (q / 18446744073709551616);simpa using this.symm
  rw [e4,th rfl,show IntKind.u64.bits = 64 from rfl];exact congrArg (fun x : Nat=>(x : Int)) (by omega)
theorem Hd : PP < 2 ^ 61:=by decide
theorem cQ (n : Nat) : n % PP < PP:=Nat.mod_lt _ (by decide)
theorem LI (a b : Nat) : (a % PP) * (b % PP) < 2 ^ 122:=by
  have h1:=cQ a;have h2:=cQ b;have h3:=Hd;calc (a % PP) * (b % PP) < 2 ^ 61 * 2 ^ 61:=Nat.mul_lt_mul'' (by omega) (by omega)
    _ = 2 ^ 122:=by decide
theorem IA (q : Nat) : (q % 2305843009213693952 + q / 2305843009213693952) % PP = q % PP:=by unfold PP; omega
end Go.AM
namespace Go.Proofs.YtbiefppedlodiaaGreatDoor
open Go Go.AM Go.Proofs Tryz
variable {Γ : Nat→List AV}
theorem D9 (aw : List UInt8) (h : aw.length = 16) : Aes.first aw < 4294967296:=by
  have key : ∀ (l : List UInt8) (x : Nat),l.foldl (fun x b=>x * 256 + b.toNat) x < (x + 1) * 256 ^ l.length:=by
    intro l;induction l with
    | nil=>intro x; simp
    | cons b l ih =>
      intro x;rw [List.foldl_cons];have h1:=ih (x * 256 + b.toNat);have hb:=b.toNat_lt;have h2 : (x * 256 + b.toNat + 1) * 256 ^ l.length≤((x + 1) * 256) * 256 ^ l.length:=Nat.mul_le_mul_right _ (by omega);rw [List.length_cons,Nat.pow_succ,Nat.mul_comm (256 ^ l.length),← Nat.mul_assoc];omega
  have:=key (aw.drop 12) 0;rw [List.length_drop,h] at this;exact this
theorem OI (aw : List UInt8) (h : aw.length = 16) (i : Nat) : (Aes.D3 aw i).length = 16:=by simp [Aes.D3,h]
theorem Sx (key aw beside masked : List UInt8) : Aes.tag key aw beside masked = (Mac.tag (key.drop 16) (be 4 beside.length ++ (beside ++ (aw ++ masked)))).take 16:=rfl
def ig (key aw beside z : List UInt8) : List UInt8:=if z.length < 16 then [] else if Aes.tag key aw beside (z.take (z.length - 16)) = z.drop (z.length - 16) then Aes.mask key aw (z.take (z.length - 16)) else []
def ij (key aw beside z : List UInt8) : Nat:=if z.length < 16 then 10 else if Aes.tag key aw beside (z.take (z.length - 16)) = z.drop (z.length - 16) then 0 else 14
theorem F5 (l : List UInt8) (s : AS) (h0 : l.length≠0) (hl : l.length≤2 ^ 45) : ai prog Γ 90 [aj l .no] s (fun r s'=>∃ o cap,s.av o = none∧r = .iv o 0 1 l.length cap∧s' = s.set o (l.map ah)):=by
 refine aa func90 rfl ntmps90 results90 (by simp) ?_;unfold aj;refine jA ?_;refine wK fun K hK=>?_;refine jB @and_false ?_;refine jF ?_;refine ab ?_;refine hK _ _ ?_;clear hK K;refine yN (x:=.tmp 5) (y:=.tmp 6) (T:=23) (xT:=23) (e:=5) (z:=[.v (.int .u8 0)]) (d:=7) rfl rfl rfl (by decide) underlying23 (by simp only [↓DN,Qa,Qb,Qc,Qd,Qe,Qf,Qg,Qh,reduceCtorEq,↓reduceIte,Na,Nb,Nc,Nk,Nf,Ng,Nh,Za,Zb,Zc,TT]; try rfl) (by simp only [↓DN,Qa,Qb,Qc,Qd,Qe,Qf,Qg,Qh,reduceCtorEq,↓reduceIte,Na,Nb,Nc,Nk,Nf,Ng,Nh,Za,Zb,Zc,TT]; try rfl) (by rw [T.c5]; decide) (by rw [T.c5]; rfl) ?_;simp only [↓DN,Qa,Qb,Qc,Qd,Qe,Qf,Qg,Qh,reduceCtorEq,↓reduceIte,Na,Nb,Nc,Nk,Nf,Ng,Nh,Za,Zb,Zc,TT,im];refine ⟨_,_,rfl,h0,by omega,by omega,?_⟩;intro ob cap rp gB;refine jI ?_;refine ⟨_,_,AV.aB.refl _,AS.le.refl _,ob,cap,rp,rfl,?_⟩;try rfl
theorem zC (l : List UInt8) (s : AS) (h0 : l.length≠0) (hl : l.length≤2 ^ 45) : ai prog Γ 90 [aj l .any] s (fun r s'=>∃ o cap,s.av o = none∧r = .iv o 0 1 l.length cap∧s' = s.set o (l.map ah)) :=
 ai.any (pre:=[]) (post:=[]) (fun e=>absurd (by rw [e]; rfl) h0) (F5 l s h0 hl)
theorem rj (F G : Nat→UInt8) (N i : Nat) (h : N≤i) : a8 F G N i = a8 F G N N:=by
 unfold a8;apply List.map_congr_left;intro n hn;have:=List.mem_range.1 hn;rw [if_pos (by omega),if_pos this]
theorem xbK (l : List UInt8) (h : l.length = 4) : (iM 4 (l,0)).1 = gM l:=by
 have e : List.take 4 l = l:=List.take_of_length_le (by omega);simp [iM,dK,h,e]
theorem OJ (i : Nat) (h : i < 2 ^ 40) : iF .i64 16 (i : Int) = ((16 * i : Nat) : Int):=by
 rw [dJ (by omega)];omega
theorem set_tail (aw tl ys : List UInt8) (hn : aw.length = 16) (ht : tl.length = 4) (hy : ys.length = 4) : bm ((aw.take 12 ++ tl).map ah) 12 (ys.map ah) = (aw.take 12 ++ ys).map ah:=by
 have h1 : (aw.take 12).length = 12:=(by simp [hn]);generalize aw.take 12 = a at *
 rw [qV _ _ _ (by rw [List.length_map,List.length_map,List.length_append]; omega),List.map_append,List.map_append,List.take_append_of_le_length (by rw [List.length_map]; omega),List.take_of_length_le (by rw [List.length_map]; omega),List.drop_eq_nil_of_le (by rw [List.length_append,List.length_map,List.length_map,List.length_map]; omega),List.append_nil]
theorem vJ (key aw text : List UInt8) (hk : key.length = 48) (hn : aw.length = 16) (h0 : text.length≠0) (ht : text.length≤2 ^ 30) (s : AS) :
  ai prog Γ 189 [aj key .any,aj aw .any,aj text .any] s (fun r s'=>r = aj (Aes.mask key aw text) .any∧s' = s):=by
 refine uP func189 rfl ntmps189 results189 (by simp) ?_;have LA : (key.take 16).length = 16:=(by simp [hk]);have LJ : (List.take 16 (key.map ah)).length = 16:=(by simp [hk]);have LK : (List.take 16 (key.map ah)).all AV.one = true:=(by rw [← List.map_take]; exact cd _);have Au : (aw.map ah).length = 16:=(by rw [List.length_map,hn]);have Rc:=cd aw;have LM : List.take 16 (aw.map ah) = aw.map ah:=List.take_of_length_le (by omega);have oW:=D9 aw hn;unfold aj;rw [hk,hn];refine cZ ?_;intro K1 kf;refine jC ?_;simp only [az];refine kf _ _ ?_;clear kf K1;refine cZ ?_;intro K1 kf;refine jT fun K hK=>?_;intro o7 Cw o8 F3;obtain ⟨Sy,IB⟩:=AS.eP F3;rw [Qj];refine hK _ _ ?_;clear hK K;simp only [az];refine kf _ _ ?_;clear kf K1;generalize me : (s.set o7 (List.replicate 16 (bV 0))).set o8 (List.replicate 16 (bV 0)) = s0 at *
 have j7 : s0.av o7 = some (List.replicate 16 (bV 0)):=(by rw [← me,AS.ao _ Sy.symm,AS.ae]);have j8 : s0.av o8 = some (List.replicate 16 (bV 0)):=(by rw [← me]; exact AS.ae _ _ _);have hle : s.le s0:=(by rw [← me]; exact AS.aE (AS.aE (AS.le.refl s) Cw _) IB _);clear me F3;have rD : (List.replicate 16 (bV 0)).length = 16:=(by simp);generalize hZ : List.replicate 16 (bV 0) = Z at *
 refine cZ ?_;intro K1 kf;refine jU (Ai @j7 (Ai @rD (Ai @LJ (Ai @LK (Ai (show (0 : Int)≤((16 : Nat) : Int) from by decide) (Ai (show ((16 : Nat) : Int)≤((16 : Nat) : Int) from by decide) (Ai (show ¬ (((16 : Nat) : Int) = 0) from by decide) (show min 48 16 = 16 from rfl)))))))) fun K hK=>?_;rw [bA Z ((key.take 16).map ah) (by rw [rD,List.length_map,LA])];refine hK _ _ ?_;clear hK K;simp only [az];refine kf _ _ ?_;clear kf K1;generalize ik : s0.set o7 ((key.take 16).map ah) = s1 at *
 have q7 : s1.av o7 = some ((key.take 16).map ah):=(by rw [← ik]; exact AS.ae _ _ _);have q8 : s1.av o8 = some Z:=(by rw [← ik,AS.ao _ Sy]; exact j8);have qX : s.le s1:=(by rw [← ik]; exact AS.aE hle Cw _);clear ik j7 j8 hle;refine cZ ?_;intro K1 kf;refine jU (Ai @q8 (Ai @rD (Ai @Au (Ai @Rc (Ai @LM (Ai (show (0 : Int)≤((16 : Nat) : Int) from by decide) (Ai (show ((16 : Nat) : Int)≤((16 : Nat) : Int) from by decide) (Ai (show ¬ (((16 : Nat) : Int) = 0) from by decide) (Ai (show min 48 16 = 16 from rfl) (show min 16 16 = 16 from rfl)))))))))) fun K hK=>?_;rw [bA Z (aw.map ah) (by rw [rD,Au])];refine hK _ _ ?_;clear hK K;simp only [az];refine kf _ _ ?_;clear kf K1;generalize nY : s1.set o8 (aw.map ah) = s2 at *
 have j7 : s2.av o7 = some ((key.take 16).map ah):=(by rw [← nY,AS.ao _ Sy.symm]; exact q7);have j8 : s2.av o8 = some (aw.map ah):=(by rw [← nY]; exact AS.ae _ _ _);have eQ : s.le s2:=(by rw [← nY]; exact AS.aE qX IB _);clear nY q7 q8 qX;have LN : (aw.drop 12).length = 4:=(by simp [hn]);have gC:=fun s=>qR (Γ:=Γ) (aw.drop 12) s (by omega);unfold aj at gC;rw [LN] at gC;refine cZ ?_;intro K1 kf;refine wE fun K hK=>?_;simp only [↓DN,Qa,Qb,Qc,Qd,Qe,Qf,Qg,Qh,reduceCtorEq,↓reduceIte,Na,Nb,Nc,Nk,Nf,Ng,Nh,Za,Zb,Zc,TT,LM,hn,show (0 : Int)≤12 from by decide,show (12 : Int)≤((16 : Nat) : Int) from by decide,show ((16 : Nat) : Int)≤((16 : Nat) : Int) from by decide];refine ad (gC _) ?_;rintro r s3 ⟨p,rfl,hp⟩;refine jR hK ?_;clear hK K;simp only [az];refine kf _ _ ?_;clear kf K1;refine cZ ?_;intro K1 kf;refine jT fun K hK=>?_;refine ad (sE s2 s3 p _ hp) ?_;rintro r s4 ⟨rfl,Ew⟩;rw [xbK _ LN,show gM (aw.drop 12) = Aes.first aw from rfl];have Zs : cB .u32 ((Aes.first aw : Nat) : Int) = ((Aes.first aw : Nat) : Int):=by
  rw [gh rfl];simp only [IntKind.bits];rw [Nat.mod_eq_of_lt (by omega)]
 refine jV @Zs hK ?_;clear hK K;have q7:=Ew.le.av _ _ j7;have q8:=Ew.le.av _ _ j8;have ib : s.le s4:=AS.le.trans eQ Ew.le;clear hp Ew j7 j8 eQ gC Zs;simp only [az];refine kf _ _ ?_;clear kf K1;refine cZ ?_;intro K1 kf;refine jT fun K hK=>?_;refine ad (zC text s4 h0 (by omega)) ?_;rintro r s5 ⟨rf,cap,F6,rfl,rfl⟩;refine jR hK ?_;clear hK K;simp only [az];refine kf _ _ ?_;clear kf K1;have n117 : rf≠o7:=(fun e=>by rw [e,q7] at F6; cases F6);have n118 : rf≠o8:=(fun e=>by rw [e,q8] at F6; cases F6);have Sz : s.av rf = none:=by
  cases h : s.av rf with
  | none=>rfl
  | some cs=>rw [ib.av _ _ h] at F6; cases F6
 have Qo : a8 (fun n=>(Aes.mask key aw text).getD n 0) (fun n=>text.getD n 0) text.length 0 = text.map ah:=(by rw [rh,lg rfl]);rw [← Qo];generalize Hc : s4.set rf (a8 (fun n=>(Aes.mask key aw text).getD n 0) (fun n=>text.getD n 0) text.length 0) = s5 at *
 have j7 : s5.av o7 = some ((key.take 16).map ah):=(by rw [← Hc,AS.ao _ n117.symm]; exact q7);have j8 : s5.av o8 = some ((aw.take 12 ++ aw.drop 12).map ah):=(by rw [← Hc,AS.ao _ n118.symm,List.take_append_drop]; exact q8);have F7 : s5.av rf = some (a8 (fun n=>(Aes.mask key aw text).getD n 0) (fun n=>text.getD n 0) text.length 0):=(by rw [← Hc]; exact AS.ae _ _ _);have gp : s.le s5:=(by rw [← Hc]; exact AS.aE ib Sz _);clear Hc q7 q8 ib F6 Qo;have c1 : dP .i64 (text.length : Int) 16 = ((text.length + 16 : Nat) : Int):=fD text.length 16 (by omega);have c2 : dC .i64 ((text.length + 16 : Nat) : Int) 1 = ((text.length + 15 : Nat) : Int):=gi (text.length + 16) 1 (by omega) (by omega);have c3 : kA .i64 ((text.length + 15 : Nat) : Int) 16 = (((text.length + 15) / 16 : Nat) : Int):=by
  have : kA .i64 ((text.length + 15 : Nat) : Int) ((16 : Nat) : Int) = (((text.length + 15) / 16 : Nat) : Int):=by
   rw [kA];have e : Int.tdiv ((text.length + 15 : Nat) : Int) ((16 : Nat) : Int) = (((text.length + 15) / 16 : Nat) : Int):=(Int.ofNat_tdiv _ 16).symm;rw [e,IntWalk.i64_in _ (by omega)]
  exact this
 have hcn : 16 * ((text.length + 15) / 16) ≥ text.length:=(by omega);have xhn : 16 * ((text.length + 15) / 16) < text.length + 16:=(by omega);generalize (text.length + 15) / 16 = Qp at *
 refine cZ ?_;intro K1 kf;refine jB (Ai @c1 (Ai @c2 (Ai @c3 @ri))) ?_;clear c1 c2 c3;refine ag ?_;refine aC (fun E s6=>∃ (j : Nat) (tl : List UInt8),j≤Qp∧tl.length = 4∧E 7 = .ptr o7 0∧E 8 = .ptr o8 0∧E 10 = .v (.int .u32 (Aes.first aw : Nat))∧E 11 = .iv rf 0 1 text.length cap∧E 36 = nV Qp∧E 37 = nV j∧s6.av o7 = some ((key.take 16).map ah)∧s6.av o8 = some ((aw.take 12 ++ tl).map ah)∧s6.av rf = some (a8 (fun n=>(Aes.mask key aw text).getD n 0) (fun n=>text.getD n 0) text.length (16 * j))∧s.le s6)
  (fun E _=>match E 37 with | .v (.int _ i)=>Qp - i.toNat | _=>0) ?_ ?_
 ·exact ⟨0,aw.drop 12,by omega,LN,rfl,rfl,rfl,rfl,rfl,rfl,j7,j8,F7,gp⟩
 ·clear j7 j8 F7 gp;rintro E1 s6 ⟨j,tl,hj,lj,e7,e8,S9,vy,YB,SA,j7,j8,F7,mD⟩ -
  by_cases jZ : j < Qp
  ·refine jB (Ai @YB (Ai @SA (decide_eq_true (show (j : Int) < (Qp : Int) by omega)))) ?_;refine wK fun K2 aV=>?_;refine jE ?_;refine ab ?_;refine aV _ _ ?_;clear aV K2;refine wK fun K3 br=>?_;refine ag ?_;refine jB @SA ?_;have w1 : cB .u32 ((j : Nat) : Int) = ((j : Nat) : Int):=by
    rw [gh rfl];simp only [IntKind.bits];rw [Nat.mod_eq_of_lt (by omega)]
   have w2:=sJ (Aes.first aw) j;rw [show Sha.dT (Aes.first aw) j = (Aes.first aw + j) % 4294967296 from rfl] at w2;refine jB (Ai @S9 (Ai @w1 @w2)) ?_;have SC : (aw.take 12 ++ be 4 ((Aes.first aw + j) % 4294967296)) = Aes.D3 aw j:=rfl;have Mg : (be 4 ((Aes.first aw + j) % 4294967296)).map ah = [bV (UInt8.ofNat ((Aes.first aw + j) % 4294967296 / 16777216)),bV (UInt8.ofNat ((Aes.first aw + j) % 4294967296 / 65536)),bV (UInt8.ofNat ((Aes.first aw + j) % 4294967296 / 256)),bV (UInt8.ofNat ((Aes.first aw + j) % 4294967296))]:=(by simp [be,ah]);have ck:=set_tail aw tl (be 4 ((Aes.first aw + j) % 4294967296)) hn lj (by simp);rw [SC,Mg] at ck;have N5 : ((aw.take 12 ++ tl).map ah).length = 16:=(by simp [hn,lj]);have JD:=tZ ((Aes.first aw + j) % 4294967296) 24 (by decide);have IM:=tZ ((Aes.first aw + j) % 4294967296) 16 (by decide);have s8':=tZ ((Aes.first aw + j) % 4294967296) 8 (by decide);generalize (Aes.first aw + j) % 4294967296 = w at *
   generalize hO : (aw.take 12 ++ tl).map ah = O at *
   refine jS (Ai @e8 (Ai @j8 (Ai @JD (Ai @IM (Ai @s8' (Ai (show eC .u32 (w : Int) 24 = ((w / 2 ^ 24 : Nat) : Int) from JD) (Ai (show eC .u32 (w : Int) 16 = ((w / 2 ^ 16 : Nat) : Int) from IM) (Ai (show eC .u32 (w : Int) 8 = ((w / 2 ^ 8 : Nat) : Int) from s8') (Ai @Lt (Ai @Yz (Ai @ck (Ai @N5 (Ai (show (12 : Int)≤((16 : Nat) : Int) from by decide) (Ai (show ((16 : Nat) : Int)≤((16 : Nat) : Int) from by decide) (Ai (show ¬ (((16 : Nat) : Int) = 12) from by decide) (show min 4 4 = 4 from rfl)))))))))))))))) fun K hK=>?_;first
    | refine hK _ _ ?_
    | refine ⟨by omega,hK _ _ ?_⟩
   clear hK K;generalize Qn : s6.set o8 ((Aes.D3 aw j).map ah) = s7 at *
   have q7 : s7.av o7 = some ((key.take 16).map ah):=(by rw [← Qn,AS.ao _ Sy.symm]; exact j7);have q8 : s7.av o8 = some ((Aes.D3 aw j).map ah):=(by rw [← Qn]; exact AS.ae _ _ _);have Mm : s7.av rf = some (a8 (fun n=>(Aes.mask key aw text).getD n 0) (fun n=>text.getD n 0) text.length (16 * j)):=(by rw [← Qn,AS.ao _ n118]; exact F7);have qY : s.le s7:=(by rw [← Qn]; exact AS.aE mD IB _);clear Qn j7 j8 F7 mD ck Mg N5;have eV:=OI aw hn j;have NW:=fun s=>yp (Γ:=Γ) (key.take 16) (Aes.D3 aw j) LA eV s;have FP:=Aes.AP (key.take 16) (Aes.D3 aw j);have Qm : ((key.take 16).map ah).length = 16:=(by rw [List.length_map,LA]);have hKt : List.take 16 ((key.take 16).map ah) = (key.take 16).map ah:=List.take_of_length_le (by omega);have hCl : ((Aes.D3 aw j).map ah).length = 16:=(by rw [List.length_map,eV]);have hCt : List.take 16 ((Aes.D3 aw j).map ah) = (Aes.D3 aw j).map ah:=List.take_of_length_le (by omega);have SR:=cd (Aes.block (key.take 16) (Aes.D3 aw j));have OK : ((Aes.block (key.take 16) (Aes.D3 aw j)).map ah).length = 16:=(by rw [List.length_map,FP]);have hBt : List.take 16 ((Aes.block (key.take 16) (Aes.D3 aw j)).map ah) = (Aes.block (key.take 16) (Aes.D3 aw j)).map ah:=List.take_of_length_le (by omega);have hmB : ∀ k,k < 16→Aes.GZ key aw (16 * j + k) = (Aes.block (key.take 16) (Aes.D3 aw j)).getD k 0:=by
    intro k hk;rw [Aes.GZ,show (16 * j + k) / 16 = j by omega,show (16 * j + k) % 16 = k by omega]
   have YC : (be 4 w).length = 4:=(by simp);rw [← SC] at q8;generalize hBK : Aes.block (key.take 16) (Aes.D3 aw j) = bk at *
   rw [← SC] at hCl hCt NW;generalize hKK : (key.take 16).map ah = KK at *
   generalize hCC : (aw.take 12 ++ be 4 w).map ah = CC at *
   refine jS (Ai @e7 (Ai @e8 (Ai @q7 (Ai @q8 (Ai @Qm (Ai @hKt (Ai @hCl (Ai @hCt @Nat.le_refl)))))))) fun K hK=>?_;refine ad (NW _) ?_;rintro r s8 ⟨rfl,rfl⟩;refine jN (Ai @OK (Ai @SR @Nat.le_refl)) ?_;intro AQ Cj;rw [Qj,bA (List.replicate 16 (bV 0)) (bk.map ah) (by rw [OK]; simp)];refine hK _ _ ?_;clear hK K;have n147 : AQ≠o7:=(fun e=>by rw [e,q7] at Cj; cases Cj);have n148 : AQ≠o8:=(fun e=>by rw [e,q8] at Cj; cases Cj);have Ld : AQ≠rf:=(fun e=>by rw [e,Mm] at Cj; cases Cj);have xbL : s.av AQ = none:=by
    cases h : s.av AQ with
    | none=>rfl
    | some cs=>rw [qY.av _ _ h] at Cj; cases Cj
   generalize Mo : s8.set AQ (bk.map ah) = s9 at *
   have j7 : s9.av o7 = some KK:=(by rw [← Mo,AS.ao _ n147.symm]; exact q7);have j8 : s9.av o8 = some CC:=(by rw [← Mo,AS.ao _ n148.symm]; exact q8);have F7 : s9.av rf = some (a8 (fun n=>(Aes.mask key aw text).getD n 0) (fun n=>text.getD n 0) text.length (16 * j)):=(by rw [← Mo,AS.ao _ Ld.symm]; exact Mm);have j14 : s9.av AQ = some (bk.map ah):=(by rw [← Mo]; exact AS.ae _ _ _);have IC : s.le s9:=(by rw [← Mo]; exact AS.aE qY xbL _);clear Mo q7 q8 Mm qY Cj NW SR;refine jB (Ai @j14 (Ai @OK (Ai @hBt @Nat.le_refl))) ?_;refine ag ?_;refine aC (fun E PM=>∃ k : Nat,k≤16∧E 7 = .ptr o7 0∧E 8 = .ptr o8 0∧E 10 = .v (.int .u32 (Aes.first aw : Nat))∧E 11 = .iv rf 0 1 text.length cap∧E 12 = nV j∧E 36 = nV Qp∧E 37 = nV j∧E 61 = .agg (bk.map ah)∧E 62 = nV k∧PM.av o7 = some KK∧PM.av o8 = some CC∧PM.av rf = some (a8 (fun n=>(Aes.mask key aw text).getD n 0) (fun n=>text.getD n 0) text.length (16 * j + k))∧s.le PM)
    (fun E _=>match E 62 with | .v (.int _ i)=>16 - i.toNat | _=>0) ?_ ?_
   ·exact ⟨0,by omega,e7,e8,S9,vy,rfl,YB,SA,rfl,rfl,j7,j8,F7,IC⟩
   ·clear j7 j8 F7 j14 IC;rintro E2 PM ⟨k,sr,g7,g8,g10,g11,g12,PI,Md,Rm,J0,j7,j8,F7,IC⟩ -
    by_cases QL : k < 16
    ·refine jB (Ai @J0 (decide_eq_true (show (k : Int) < 16 by omega))) ?_;refine wK fun K5 kt=>?_;refine jE ?_;refine ab ?_;refine kt _ _ ?_;clear kt K5;refine wK fun K6 kV=>?_;refine ag ?_;have hbi : (bk.map ah)[k]? = some (ah (bk.getD k 0)):=(by simp [List.getElem?_eq_getElem (show k < bk.length by omega)]);have SS:=de (l:=bk) k (by omega);have L7:=hmB k QL;have m1 : (0 : Int)≤(k : Int):=(by omega);have m2 : (k : Int) < ((16 : Nat) : Int):=(by omega);have a0:=OJ j (by omega);have a1:=fD (16 * j) k (by omega);have se : ∀ (E3 : Env) (PN : AS),E3 7 = .ptr o7 0→E3 8 = .ptr o8 0→E3 10 = .v (.int .u32 (Aes.first aw : Nat))→E3 11 = .iv rf 0 1 text.length cap→E3 12 = nV j→E3 36 = nV Qp→E3 37 = nV j→E3 61 = .agg (bk.map ah)→E3 62 = nV k →
       PN.av o7 = some KK→PN.av o8 = some CC→PN.av rf = some (a8 (fun n=>(Aes.mask key aw text).getD n 0) (fun n=>text.getD n 0) text.length (16 * j + k + 1))→s.le PN→K6 E3 PN:=by
      intro E3 PN f7 f8 f10 f11 f12 f36 f37 f61 f62 t7 t8 t11 YD;refine kV _ _ ?_;clear kV K6;refine jD (Ai @f62 (cE k (by omega))) ?_;refine ⟨⟨k + 1,by omega,f7,f8,f10,f11,f12,f36,f37,f61,rfl,t7,t8,by rw [show 16 * j + (k + 1) = 16 * j + k + 1 from rfl]; exact t11,YD⟩,?_⟩;simp only [J0,aF,↓reduceIte];omega
     clear kV;refine wS fun K hK=>?_;simp only [↓DN,Qa,Qb,Qc,Qd,Qe,Qf,Qg,Qh,reduceCtorEq,↓reduceIte,Na,Nb,Nc,Nk,Nf,Ng,Nh,Za,Zb,Zc,TT,Rm,J0,m1,m2,hbi,SS,OK,ah];refine hK _ _ ?_;clear hK K;refine jB (Ai @g12 (Ai @a0 @a1)) ?_;by_cases zr : 16 * j + k < text.length
     ·have ck:=dH (fun n=>(Aes.mask key aw text).getD n 0) (fun n=>text.getD n 0) text.length (16 * j + k) _ rfl;have II:=ns (fun n=>(Aes.mask key aw text).getD n 0) (fun n=>text.getD n 0) text.length (16 * j + k) (16 * j + k) zr;rw [if_neg (Nat.lt_irrefl _)] at II;rw [Aes.ye key aw text (16 * j + k) zr,L7] at ck;have hlen:=da (fun n=>(Aes.mask key aw text).getD n 0) (fun n=>text.getD n 0) text.length (16 * j + k);generalize F1 : a8 (fun n=>(Aes.mask key aw text).getD n 0) (fun n=>text.getD n 0) text.length (16 * j + k + 1) = R' at *
      generalize a8 (fun n=>(Aes.mask key aw text).getD n 0) (fun n=>text.getD n 0) text.length (16 * j + k) = R at *
      generalize text.getD (16 * j + k) 0 = x at *
      generalize bk.getD k 0 = y at *
      have m3 : (0 : Int)≤((16 * j + k : Nat) : Int):=(by omega);have m4 : ((16 * j + k : Nat) : Int) < (text.length : Int):=(by omega);have m5 : 16 * j + k + 1≤text.length:=(by omega);refine jB (Ai @g11 (decide_eq_true m4)) ?_;refine jE ?_;refine wE fun K hK=>?_;simp only [↓DN,Qa,Qb,Qc,Qd,Qe,Qf,Qg,Qh,reduceCtorEq,↓reduceIte,Na,Nb,Nc,Nk,Nf,Ng,Nh,Za,Zb,Zc,TT,g11,m3,m4,m5,zr,F7,II,ah,nU,ck,hlen];refine hK _ _ ?_;clear hK K;simp only [ar,az,if_true,if_false];exact se _ _ g7 g8 g10 g11 g12 PI Md Rm J0 (by rw [AS.ao _ n117.symm]; exact j7) (by rw [AS.ao _ n118.symm]; exact j8) (AS.ae _ _ _) (AS.aE IC Sz _)
     ·refine jB (Ai @g11 (decide_eq_false (show ¬ ((16 * j + k : Nat) : Int) < (text.length : Int) by omega))) ?_;refine jF ?_;refine ab ?_;simp only [ar,az,if_true,if_false];exact se _ _ g7 g8 g10 g11 g12 PI Md Rm J0 j7 j8 (by rw [rj _ _ _ _ (by omega)]; rw [rj _ _ _ _ (by omega)] at F7; exact F7) IC
    ·obtain rfl : k = 16:=(by omega);refine jB (Ai @J0 (decide_eq_false (show ¬ ((16 : Nat) : Int) < 16 by decide))) ?_;refine wK fun K5 kt=>?_;refine jF ?_;refine aA ?_;simp only [az,ar,if_true,if_false];clear kt K5;refine br _ _ ?_;clear br K3;rw [← hCC] at j8;refine jD (Ai @Md (cE j (by omega))) ?_;refine ⟨⟨j + 1,be 4 w,by omega,YC,g7,g8,g10,g11,PI,rfl,j7,j8,by rw [show 16 * (j + 1) = 16 * j + 16 from rfl]; exact F7,IC⟩,?_⟩;simp only [SA,aF,↓reduceIte];omega
  ·obtain rfl : j = Qp:=(by omega);refine jB (Ai @YB (Ai @SA (decide_eq_false (show ¬ (j : Int) < (j : Int) by omega)))) ?_;refine wK fun K2 aV=>?_;refine jF ?_;refine aA ?_;simp only [az,ar,if_true];clear aV K2;refine kf _ _ ?_;clear kf K1;have sZ:=Aes.mF key aw text;rw [rj _ _ _ _ (by omega),fq,lg sZ] at F7;have hl5 : ((Aes.mask key aw text).map ah).length = text.length:=(by rw [List.length_map,sZ]);refine Ag (gK.freeze (d:=11) (o:=rf) (off:=0) (sz:=1) (n:=text.length) (cap:=cap) (by simp only [aF,Nc,↓reduceIte]; exact vy) F7 (by omega)) (ch.g ?_);have qY : s.le (s6.drop rf):=AS.rE mD Sz;generalize s6.drop rf = s7 at *
   rw [show (((Aes.mask key aw text).map ah).drop 0).take (text.length * 1) = (Aes.mask key aw text).map ah from by rw [List.drop_zero,List.take_of_length_le (by omega)],← sZ];generalize Aes.mask key aw text = M at *
   refine jA ?_;refine jI ?_;exact ⟨_,s,AV.bQ,qY,rfl,rfl⟩
theorem vK (key aw : List UInt8) (hk : key.length = 48) (hn : aw.length = 16) (s : AS) :
  ai prog Γ 189 [aj key .any,aj aw .any,aj [] .any] s (fun r s'=>r = aj [] .any∧s' = s):=by
 refine aa func189 rfl ntmps189 results189 (by simp) ?_;have LA : (key.take 16).length = 16:=(by simp [hk]);have LJ : (List.take 16 (key.map ah)).length = 16:=(by simp [hk]);have LK : (List.take 16 (key.map ah)).all AV.one = true:=(by rw [← List.map_take]; exact cd _);have Au : (aw.map ah).length = 16:=(by rw [List.length_map,hn]);have Rc:=cd aw;have LM : List.take 16 (aw.map ah) = aw.map ah:=List.take_of_length_le (by omega);have oW:=D9 aw hn;have uk:=fun s=>sD (Γ:=Γ) [] s (by simp);unfold aj at uk ⊢;rw [hk,hn];refine jA ?_;refine jQ fun K hK=>?_;intro o7 Cw o8 F3;obtain ⟨Sy,IB⟩:=AS.eP F3;rw [Qj];refine hK _ _ ?_;clear hK K;generalize me : (s.set o7 (List.replicate 16 (bV 0))).set o8 (List.replicate 16 (bV 0)) = s0 at *
 have j7 : s0.av o7 = some (List.replicate 16 (bV 0)):=(by rw [← me,AS.ao _ Sy.symm,AS.ae]);have j8 : s0.av o8 = some (List.replicate 16 (bV 0)):=(by rw [← me]; exact AS.ae _ _ _);have hle : s.le s0:=(by rw [← me]; exact AS.aE (AS.aE (AS.le.refl s) Cw _) IB _);clear me F3;have rD : (List.replicate 16 (bV 0)).length = 16:=(by simp);generalize hZ : List.replicate 16 (bV 0) = Z at *
 refine jB (Ai @j7 (Ai @rD (Ai @LJ (Ai @LK (Ai (show (0 : Int)≤((16 : Nat) : Int) from by decide) (Ai (show ((16 : Nat) : Int)≤((16 : Nat) : Int) from by decide) (Ai (show ¬ (((16 : Nat) : Int) = 0) from by decide) (show min 48 16 = 16 from rfl)))))))) ?_;generalize ik : s0.set o7 (bm Z 0 (List.map ah (List.take 16 key))) = s1 at *
 have q8 : s1.av o8 = some Z:=(by rw [← ik,AS.ao _ Sy]; exact j8);have qX : s.le s1:=(by rw [← ik]; exact AS.aE hle Cw _);clear ik j7 j8 hle;refine jB (Ai @q8 (Ai @rD (Ai @Au (Ai @Rc (Ai @LM (Ai (show (0 : Int)≤((16 : Nat) : Int) from by decide) (Ai (show ((16 : Nat) : Int)≤((16 : Nat) : Int) from by decide) (Ai (show ¬ (((16 : Nat) : Int) = 0) from by decide) (show min 16 16 = 16 from rfl))))))))) ?_;generalize nY : s1.set o8 (bm Z 0 (aw.map ah)) = s2 at *
 have eQ : s.le s2:=(by rw [← nY]; exact AS.aE qX IB _);clear nY q8 qX;have LN : (aw.drop 12).length = 4:=(by simp [hn]);have gC:=fun s=>qR (Γ:=Γ) (aw.drop 12) s (by omega);unfold aj at gC;rw [LN] at gC;refine wS fun K hK=>?_;simp only [↓DN,Qa,Qb,Qc,Qd,Qe,Qf,Qg,Qh,reduceCtorEq,↓reduceIte,Na,Nb,Nc,Nk,Nf,Ng,Nh,Za,Zb,Zc,TT,LM,hn,show (0 : Int)≤12 from by decide,show (12 : Int)≤((16 : Nat) : Int) from by decide,show ((16 : Nat) : Int)≤((16 : Nat) : Int) from by decide];refine ad (gC _) ?_;rintro r s3 ⟨p,rfl,hp⟩;refine jR hK ?_;clear hK K;refine jQ fun K hK=>?_;refine ad (sE s2 s3 p _ hp) ?_;rintro r s4 ⟨rfl,Ew⟩;refine jR hK ?_;clear hK K;have ib : s.le s4:=AS.le.trans eQ Ew.le;clear hp Ew eQ gC;refine jK (uk _) ?_;rintro s5 rfl;have c1 : dP .i64 ((0 : Nat) : Int) 16 = ((16 : Nat) : Int):=fD 0 16 (by omega);have c2 : dC .i64 ((16 : Nat) : Int) 1 = ((15 : Nat) : Int):=gi 16 1 (by omega) (by omega);have c3 : kA .i64 ((15 : Nat) : Int) 16 = ((0 : Nat) : Int):=(by decide);refine wK fun K hK=>?_;refine wS fun K hK=>?_;simp only [↓DN,Qa,Qb,Qc,Qd,Qe,Qf,Qg,Qh,reduceCtorEq,↓reduceIte,Na,Nb,Nc,Nk,Nf,Ng,Nh,Za,Zb,Zc,TT,List.length_nil,c1,c2,c3,ri];refine hK _ _ ?_;clear hK K;clear c1 c2 c3;refine ag ?_;refine aC (fun E s6=>E 11 = .sl 1 0 [] .any∧E 36 = nV 0∧E 37 = nV 0∧s6 = s5)
  (fun E _=>0) ?_ ?_
 ·exact ⟨rfl,rfl,rfl,rfl⟩
 ·rintro E1 s6 ⟨vy,YB,SA,rfl⟩ -
  refine jB (Ai @YB (Ai @SA (decide_eq_false (show ¬ ((0 : Nat) : Int) < ((0 : Nat) : Int) by decide)))) ?_;refine wK fun K2 aV=>?_;refine jF ?_;refine aA ?_;simp only [az,ar,if_true];clear aV K2;refine hK _ _ ?_;clear hK K;refine jB @vy ?_;refine jI ?_;exact ⟨_,s,AV.aB.refl _,ib,rfl,rfl⟩
theorem yq (key aw text : List UInt8) (hk : key.length = 48) (hn : aw.length = 16) (ht : text.length≤2 ^ 30) (s : AS) :
  ai prog Γ 189 [aj key .any,aj aw .any,aj text .any] s (fun r s'=>r = aj (Aes.mask key aw text) .any∧s' = s):=by
 by_cases h0 : text.length = 0
 ·obtain rfl:=List.eq_nil_of_length_eq_zero h0;rw [show Aes.mask key aw [] = [] from rfl];exact vK key aw hk hn s
 ·exact vJ key aw text hk hn h0 ht s
theorem va (n c : Nat) : (((n : Nat) : Int) == ((c : Nat) : Int)) = decide (n = c):=by
 by_cases h : n = c
 ·subst h; simp
 ·rw [decide_eq_false h]; simp; omega
theorem vb (key aw : List UInt8) (s : AS) :
  ai prog Γ 188 [aj key .any,aj aw .any] s (fun r s'=>r = .v (.bool (decide (key.length = 48∧aw.length = 16)))∧s' = s):=by
 refine aa func188 rfl ntmps188 results188 (by simp) ?_;have e1 : ((key.length : Int) == 48) = decide (key.length = 48):=va key.length 48;have e2 : ((aw.length : Int) == 16) = decide (aw.length = 16):=va aw.length 16;by_cases h1 : key.length = 48
 ·rw [decide_eq_true h1] at e1;by_cases h2 : aw.length = 16
  ·rw [decide_eq_true h2] at e2;rw [decide_eq_true (⟨h1,h2⟩ : key.length = 48∧aw.length = 16)];refine jA ?_;refine jB (Ai @e1 @e2) ?_;exact jJ
  ·rw [decide_eq_false h2] at e2;rw [decide_eq_false (fun h : key.length = 48∧aw.length = 16=>h2 h.2)];refine jA ?_;refine jB (Ai @e1 @e2) ?_;exact jJ
 ·rw [decide_eq_false h1] at e1;rw [decide_eq_false (fun h : key.length = 48∧aw.length = 16=>h1 h.1)];refine jA ?_;refine jB @e1 ?_;exact jJ
theorem Ea (a b c d : List UInt8) : fQ [a,b,c,d] = [aj a .any,aj b .any,aj c .any,aj d .any]:=rfl
theorem yr (dO : Γ 0 = dV Sha.H0) (hG : Γ 1 = Sha.K.map wV) (key aw beside masked : List UInt8) (hk : key.length = 48) (hn : aw.length = 16) (hb : beside.length≤2 ^ 30) (hm : masked.length≤2 ^ 30) (s : AS) :
  ai prog Γ 190 [aj key .any,aj aw .any,aj beside .any,aj masked .any] s (fun r s'=>r = aj (Aes.tag key aw beside masked) .any∧s' = s):=by
 refine aa func190 rfl ntmps190 results190 (by simp) ?_;have hps : bd 4 (beside.length : Int) ([],false) = (be 4 beside.length,false):=by
  unfold bd;rw [if_pos ⟨by omega,by omega⟩];simp [dQ]
 have KJ : (key.drop 16).length = 32:=(by simp [hk]);have D5:=fun s=>nr (Γ:=Γ) dO hG (key.drop 16) [be 4 beside.length,beside,aw,masked] .new (by omega) (by simp) (by simp [hn]; omega) s;rw [show [be 4 beside.length,beside,aw,masked].flatten = be 4 beside.length ++ (beside ++ (aw ++ masked)) from by simp,Ea] at D5;have lj:=Mac.lL (key.drop 16) (be 4 beside.length ++ (beside ++ (aw ++ masked)));rw [Sx];have FP : (be 4 beside.length).length = 4:=(by simp);generalize Mac.tag (key.drop 16) (be 4 beside.length ++ (beside ++ (aw ++ masked))) = T0 at *
 have dN : List.take 48 key = key:=List.take_of_length_le (by omega);refine jA ?_;refine jQ fun K hK=>?_;refine ad (pH s) ?_;rintro r s1 ⟨p,rfl,q1⟩;refine jR hK ?_;clear hK K;refine jQ fun K hK=>?_;refine ad (sB s s1 p ([],false) (beside.length : Int) (by omega) (by simp) q1) ?_;rintro r s2 ⟨rfl,q2⟩;rw [hps] at q2;refine jR hK ?_;clear hK K;refine jQ fun K hK=>?_;refine ad (hM s s2 p _ (by simp) q2) ?_;rintro r s3 ⟨rfl,rfl⟩;generalize be 4 beside.length = bh at *
 refine jR hK ?_;clear hK K;unfold aj at D5;rw [KJ] at D5;have YE : ∀ x : AV,List.replicate 4 x = [x,x,x,x]:=fun _=>rfl;refine wS fun K hK=>?_;simp only [↓DN,Qa,Qb,Qc,Qd,Qe,Qf,Qg,Qh,reduceCtorEq,↓reduceIte,Na,Nb,Nc,Nk,Nf,Ng,Nh,Za,Zb,Zc,TT,hk,dN,YE,show (0 : Int)≤16 from by decide,show (16 : Int)≤((48 : Nat) : Int) from by decide,show ((48 : Nat) : Int)≤((48 : Nat) : Int) from by decide];refine ad (D5 _) ?_;intro r s4 bx;have ib : s.le s4:=AS.le.trans q2.le bx.1;obtain ⟨t,e,rfl⟩:=cg bx (by rw [← List.length_pos_iff,lj]; decide);clear bx;refine jV (Ai @lj (Ai (show (0 : Int)≤16 from by decide) (Ai (show (16 : Int)≤((32 : Nat) : Int) from by decide) (show ¬ ((16 : Int) = ((32 : Nat) : Int)) from by decide)))) hK ?_;clear hK K;refine jI ?_;have xbM : (T0.take 16).length = 16:=(by simp [lj]);refine ⟨aj (T0.take 16) .any,s,?_,ib,rfl,rfl⟩;unfold aj;rw [xbM];exact AV.bQ
def yt (key aw beside text : List UInt8) : List UInt8:=if key.length = 48∧aw.length = 16 then Aes.dF key aw beside text else []
def yu (key aw : List UInt8) : Nat:=if key.length = 48∧aw.length = 16 then 0 else 2
def SE (key aw beside z : List UInt8) : List UInt8:=if key.length = 48∧aw.length = 16 then ig key aw beside z else []
def SF (key aw beside z : List UInt8) : Nat:=if key.length = 48∧aw.length = 16 then ij key aw beside z else 2
theorem nh (key aw beside text : List UInt8) : (Aes.dF key aw beside text).length = text.length + 16:=by
 rw [Aes.dF,List.length_append,Aes.mF,Aes.lL]
theorem F8 (dO : Γ 0 = dV Sha.H0) (hG : Γ 1 = Sha.K.map wV) (key aw beside text : List UInt8) (hb : beside.length≤2 ^ 30) (ht : text.length≤2 ^ 30) (s : AS) :
  ai prog Γ 155 [aj key .any,aj aw .any,aj beside .any,aj text .any] s (fun r s'=>r = .dX [aj (yt key aw beside text) .any,.v (.int .i64 ((yu key aw : Nat) : Int))]∧s' = s):=by
 refine aa func155 rfl ntmps155 results155 (by simp) ?_;refine jA ?_;refine wK fun K hK=>?_;refine jQ fun K hK=>?_;refine ad (vb key aw _) ?_;rintro r s1 ⟨rfl,rfl⟩;by_cases hf : key.length = 48∧aw.length = 16
 ·have h1 : yt key aw beside text = Aes.dF key aw beside text:=(by unfold yt; rw [if_pos hf]);have h2 : yu key aw = 0:=(by unfold yu; rw [if_pos hf]);rw [decide_eq_true hf];obtain ⟨hk,hn⟩:=hf;refine jR hK ?_;clear hK K;refine jF ?_;refine ab ?_;refine hK _ _ ?_;clear hK K;have sZ:=Aes.mF key aw text;have lj:=Aes.lL key aw beside (Aes.mask key aw text);have c1:=fun s=>yq (Γ:=Γ) key aw text hk hn ht s;have c2:=fun s=>yr (Γ:=Γ) dO hG key aw beside (Aes.mask key aw text) hk hn hb (by omega) s;have Ho : Aes.dF key aw beside text = Aes.mask key aw text ++ Aes.tag key aw beside (Aes.mask key aw text):=rfl;have c3:=fun s=>kn (Γ:=Γ) [Aes.mask key aw text,Aes.tag key aw beside (Aes.mask key aw text)] .new (by simp) (by simp; omega) s;rw [show [Aes.mask key aw text,Aes.tag key aw beside (Aes.mask key aw text)].flatten = Aes.dF key aw beside text from by rw [Ho]; simp,FY] at c3;have tb:=nh key aw beside text;clear Ho;generalize Aes.dF key aw beside text = S0 at *
  generalize Aes.tag key aw beside (Aes.mask key aw text) = T0 at *
  generalize Aes.mask key aw text = M at *
  refine jK (c1 _) ?_;rintro s2 rfl;refine wS fun K hK=>?_;simp only [↓DN,Qa,Qb,Qc,Qd,Qe,Qf,Qg,Qh,reduceCtorEq,↓reduceIte,Na,Nb,Nc,Nk,Nf,Ng,Nh,Za,Zb,Zc,TT,List.replicate_succ,List.replicate_zero];refine ad (c2 _) ?_;rintro r s3 ⟨rfl,rfl⟩;simp only [↓DM,bY,DX,Nz,↓DN,Qa,Qb,Qc,Qd,Qe,Qf,Qg,Qh,reduceCtorEq,↓reduceIte,Na,Nb,Nc,Nk,Nf,Ng,Nh,Za,Zb,Zc,TT,List.replicate_succ,List.replicate_zero];refine ad (c3 _) ?_;intro r s4 bx;have hw:=bx.aB;have hle:=bx.1;obtain ⟨t,e,rfl⟩:=cg bx (by rw [← List.length_pos_iff,tb]; omega);refine jR hK ?_;clear hK K;refine jI ?_;rw [h1,h2];exact ⟨_,s3,AV.cO hw (AV.aB.refl _),hle,rfl,rfl⟩
 ·have h1 : yt key aw beside text = []:=(by unfold yt; rw [if_neg hf]);have h2 : yu key aw = 2:=(by unfold yu; rw [if_neg hf]);rw [decide_eq_false hf];refine jR hK ?_;clear hK K;refine jE ?_;refine jA ?_;refine jI ?_;rw [h1,h2];exact ⟨_,_,AV.cO AV.aI (AV.aB.refl _),AS.le.refl _,rfl,rfl⟩
theorem vL (dO : Γ 0 = dV Sha.H0) (hG : Γ 1 = Sha.K.map wV) (key aw beside z : List UInt8) (hb : beside.length≤2 ^ 30) (hz : z.length≤2 ^ 30) (s : AS) :
  ai prog Γ 174 [aj key .any,aj aw .any,aj beside .any,aj z .any] s (fun r s'=>r = .dX [aj (SE key aw beside z) .any,.v (.int .i64 ((SF key aw beside z : Nat) : Int))]∧s' = s):=by
 refine aa func174 rfl ntmps174 results174 (by simp) ?_;have oZ : dC .i64 (z.length : Int) 16 = (z.length : Int) - 16:=cf (by omega);refine jA ?_;refine jB @oZ ?_;refine wK fun K hK=>?_;refine ag ?_;refine jQ fun K hK=>?_;refine ad (vb key aw _) ?_;rintro r s1 ⟨rfl,rfl⟩;by_cases hf : key.length = 48∧aw.length = 16
 ·have h1 : SE key aw beside z = ig key aw beside z:=(by unfold SE; rw [if_pos hf]);have h2 : SF key aw beside z = ij key aw beside z:=(by unfold SF; rw [if_pos hf]);rw [decide_eq_true hf];obtain ⟨hk,hn⟩:=hf;refine jR hK ?_;clear hK K;refine jF ?_;by_cases NV : z.length < 16
  ·have h3 : ig key aw beside z = []:=(by unfold ig; rw [if_pos NV]);have h4 : ij key aw beside z = 10:=(by unfold ij; rw [if_pos NV]);refine jB (decide_eq_true (show (z.length : Int) - 16 < 0 by omega)) ?_;refine jE ?_;refine jA ?_;refine jI ?_;rw [h1,h2,h3,h4];exact ⟨_,_,AV.cO AV.aI (AV.aB.refl _),AS.le.refl _,rfl,rfl⟩
  ·have xbN : (z.length : Int) - 16 = ((z.length - 16 : Nat) : Int):=(by omega);have htz : List.take z.length (z.map ah) = z.map ah:=List.take_of_length_le (by simp);have m0 : (0 : Int)≤((z.length - 16 : Nat) : Int):=(by omega);have m1 : ((z.length - 16 : Nat) : Int)≤(z.length : Int):=(by omega);have m2 : (z.length : Int)≤(z.length : Int):=Int.le_refl _;have m3 : z.length - (z.length - 16) = 16:=(by omega);rw [xbN];have lj : (z.take (z.length - 16)).length = z.length - 16:=(by rw [List.length_take]; omega);have zM : (z.drop (z.length - 16)).length = 16:=(by rw [List.length_drop]; omega);have c2:=fun s=>yr (Γ:=Γ) dO hG key aw beside (z.take (z.length - 16)) hk hn hb (by omega) s;have c1:=fun s=>yq (Γ:=Γ) key aw (z.take (z.length - 16)) hk hn (by omega) s;have c4:=fun s=>FZ (Γ:=Γ) (Aes.tag key aw beside (z.take (z.length - 16))) (z.drop (z.length - 16)) (by rw [Aes.lL]; decide) s;have SG : List.take z.length z = z:=List.take_length;unfold aj at c1 c2 c4;rw [lj] at c1 c2;rw [zM] at c4;refine jB (decide_eq_false (show ¬ ((z.length - 16 : Nat) : Int) < 0 by omega)) ?_;refine jF ?_;refine bn T.mixed [6,10] (by kernel_rfl) ?_;intro K hK;simp only [↓DM,bY,DX,Nz,↓DN,Qa,Qb,Qc,Qd,Qe,Qf,Qg,Qh,reduceCtorEq,↓reduceIte,Na,Nb,Nc,Nk,Nf,Ng,Nh,Za,Zb,Zc,TT,m0,m1,m2,m3,htz,SG];refine ad (c2 _) ?_;rintro r s2 ⟨rfl,rfl⟩;simp only [↓DM,bY,DX,Nz,↓DN,Qa,Qb,Qc,Qd,Qe,Qf,Qg,Qh,reduceCtorEq,↓reduceIte,Na,Nb,Nc,Nk,Nf,Ng,Nh,Za,Zb,Zc,TT,m0,m1,m2,m3,htz,SG];refine ad (c4 _) ?_;rintro r s3 ⟨rfl,rfl⟩;by_cases ht : Aes.tag key aw beside (z.take (z.length - 16)) = z.drop (z.length - 16)
   ·have h3 : ig key aw beside z = Aes.mask key aw (z.take (z.length - 16)):=(by unfold ig; rw [if_neg NV,if_pos ht]);have h4 : ij key aw beside z = 0:=(by unfold ij; rw [if_neg NV,if_pos ht]);rw [decide_eq_true ht];refine jR hK ?_;clear hK K;refine jF ?_;refine ab ?_;simp only [ar,az,if_true,if_false];refine hK _ _ ?_;clear hK K;refine wS fun K hK=>?_;simp only [↓DN,Qa,Qb,Qc,Qd,Qe,Qf,Qg,Qh,reduceCtorEq,↓reduceIte,Na,Nb,Nc,Nk,Nf,Ng,Nh,Za,Zb,Zc,TT,m0,m1,m2,m3,htz,SG];refine ad (c1 _) ?_;rintro r s4 ⟨rfl,rfl⟩;refine jR hK ?_;clear hK K;refine jI ?_;rw [h1,h2,h3,h4];exact jW ⟨rfl,rfl⟩
   ·have h3 : ig key aw beside z = []:=(by unfold ig; rw [if_neg NV,if_neg ht]);have h4 : ij key aw beside z = 14:=(by unfold ij; rw [if_neg NV,if_neg ht]);rw [decide_eq_false ht];refine jR hK ?_;clear hK K;refine jE ?_;refine jA ?_;refine jI ?_;rw [h1,h2,h3,h4];exact ⟨_,_,AV.cO AV.aI (AV.aB.refl _),AS.le.refl _,rfl,rfl⟩
 ·have h1 : SE key aw beside z = []:=(by unfold SE; rw [if_neg hf]);have h2 : SF key aw beside z = 2:=(by unfold SF; rw [if_neg hf]);rw [decide_eq_false hf];refine jR hK ?_;clear hK K;refine jE ?_;refine jA ?_;refine jI ?_;rw [h1,h2];exact ⟨_,_,AV.cO AV.aI (AV.aB.refl _),AS.le.refl _,rfl,rfl⟩
theorem yv (key aw beside text : List UInt8) : ig key aw beside (Aes.dF key aw beside text) = text:=by
  have hl:=nh key aw beside text;unfold ig;rw [if_neg (by omega)];have sZ:=Aes.mF key aw text;have e1 : (Aes.dF key aw beside text).take ((Aes.dF key aw beside text).length - 16) = Aes.mask key aw text:=by
    rw [hl,Aes.dF,Nat.add_sub_cancel,List.take_append_of_le_length (by omega),List.take_of_length_le (by omega)]
  have e2 : (Aes.dF key aw beside text).drop ((Aes.dF key aw beside text).length - 16) = Aes.tag key aw beside (Aes.mask key aw text):=by
    rw [hl,Aes.dF,Nat.add_sub_cancel,List.drop_append_of_le_length (by omega),List.drop_eq_nil_of_le (by omega),List.nil_append]
  rw [e1,e2,if_pos rfl,Aes.Ir]
theorem yw (key aw beside text : List UInt8) : ij key aw beside (Aes.dF key aw beside text) = 0:=by
  have hl:=nh key aw beside text;unfold ij;rw [if_neg (by omega)];have sZ:=Aes.mF key aw text;have e1 : (Aes.dF key aw beside text).take ((Aes.dF key aw beside text).length - 16) = Aes.mask key aw text:=by
    rw [hl,Aes.dF,Nat.add_sub_cancel,List.take_append_of_le_length (by omega),List.take_of_length_le (by omega)]
  have e2 : (Aes.dF key aw beside text).drop ((Aes.dF key aw beside text).length - 16) = Aes.tag key aw beside (Aes.mask key aw text):=by
    rw [hl,Aes.dF,Nat.add_sub_cancel,List.drop_append_of_le_length (by omega),List.drop_eq_nil_of_le (by omega),List.nil_append]
  rw [e1,e2,if_pos rfl]
theorem rk (n : Nat) (hn : n < 2 ^ 64) (s : AS) : ai prog Γ 182 [.v (.int .u64 n)] s (fun r s'=>r = .v (.int .u64 (n % PP : Nat))∧s' = s):=by
 refine aa func182 rfl ntmps182 results182 (by simp) ?_;refine jA ?_;refine jA ?_;refine wK fun K hK=>?_;have hf:=F4 n hn;unfold Ci at hf;simp only at hf;refine jA ?_;by_cases hc : (2305843009213693951 : Int)≤dP .u64 (ll .u64 n 2305843009213693951) (eC .u64 n 61)
 ·rw [if_pos hc] at hf;refine wC fun X Y hX hY=>?_;refine jP (Ai @DB @hc) ?_;refine hX ?_;clear hX hY X Y;refine jC ?_;refine hK _ _ ?_;clear hK K;refine jA ?_;refine jI ?_;exact jW ⟨by rw [hf],rfl⟩
 ·rw [if_neg hc] at hf;refine wC fun X Y hX hY=>?_;refine jP (Ai @DB @hc) ?_;refine hY ?_;clear hX hY X Y;refine ab ?_;refine hK _ _ ?_;clear hK K;refine jA ?_;refine jI ?_;exact jW ⟨by rw [hf],rfl⟩
theorem Eb (x y : Nat) (hx : x < 2 ^ 64) (hy : y < 2 ^ 64) (s : AS) : ai prog Γ 181 [.v (.int .u64 x),.v (.int .u64 y)] s
  (fun r s'=>r = .dX [.v (.int .u64 (x * y / 18446744073709551616 : Nat)),.v (.int .u64 (x * y % 18446744073709551616 : Nat))]∧s' = s):=by
 refine aa func181 rfl ntmps181 results181 (by simp) ?_;refine jA ?_;refine jA ?_;refine jA ?_;refine jA ?_;refine jA ?_;refine jA ?_;refine jA ?_;refine jA ?_;refine jA ?_;refine jA ?_;refine jA ?_;refine jA ?_;refine jI ?_;refine jW ⟨?_,rfl⟩;have x1 : x / 4294967296 < 4294967296:=(by omega);have y1 : y / 4294967296 < 4294967296:=(by omega);have x0 : x % 4294967296 < 4294967296:=(by omega);have y0 : y % 4294967296 < 4294967296:=(by omega);have b1:=sU x1 y1;have b2:=sU x1 y0;have b3:=sU x0 y1;have b4:=sU x0 y0;have key:=LG _ _ _ _ x1 x0 y1 y0;rw [show x / 4294967296 * 4294967296 + x % 4294967296 = x from by omega,show y / 4294967296 * 4294967296 + y % 4294967296 = y from by omega] at key;rw [uo x hx,uo y hy,mG,mG,we _ _ (by omega : x % 4294967296 * (y % 4294967296) < 2 ^ 64),we _ _ (by omega : x / 4294967296 * (y % 4294967296) < 2 ^ 64),
  we _ _ (by omega : x % 4294967296 * (y / 4294967296) < 2 ^ 64),we _ _ (by omega : x / 4294967296 * (y / 4294967296) < 2 ^ 64),LH,mG]
 generalize x / 4294967296 * (y / 4294967296) = A at *
 generalize x / 4294967296 * (y % 4294967296) = B at *
 generalize x % 4294967296 * (y / 4294967296) = C at *
 generalize x % 4294967296 * (y % 4294967296) = D at *
 rw [nw _ _ (by omega : B + D / 4294967296 < 2 ^ 64),uo _ (by omega),nw _ _ (by omega : (B + D / 4294967296) % 4294967296 + C < 2 ^ 64),mG,mG,nw _ _ (by omega),nw _ _ (by omega),key]
theorem A2 (a b : Nat) (ha : a < 2 ^ 64) (hb : b < 2 ^ 64) (s : AS) : ai prog Γ 147 [.v (.int .u64 a),.v (.int .u64 b)] s (fun r s'=>r = .v (.int .u64 (a * b % PP : Nat))∧s' = s):=by
 refine aa func147 rfl ntmps147 results147 (by simp) ?_;have l1:=cQ a;have l2:=cQ b;have l3:=Hd;have l4:=LI a b;refine jA ?_;refine jQ fun K hK=>?_;refine ad (rk a ha s) ?_;rintro r s' ⟨rfl,rfl⟩;refine jM ?_;refine ad (rk b hb s') ?_;rintro r s' ⟨rfl,rfl⟩;refine jM ?_;refine ad (Eb (a % PP) (b % PP) (by omega) (by omega) s') ?_;rintro r s' ⟨rfl,rfl⟩;refine jR hK ?_;clear hK K;refine jS (OH _ l4) fun K hK=>?_;refine ad (rk (a % PP * (b % PP) % 2305843009213693952 + a % PP * (b % PP) / 2305843009213693952) (by omega) s') ?_;rintro r s' ⟨rfl,rfl⟩;refine jR hK ?_;clear hK K;refine jI ?_;exact jW ⟨by rw [IA,← Nat.mul_mod],rfl⟩
theorem A3 (a n : Nat) (ha : a < 2 ^ 64) (hn : n < 2 ^ 64) (s : AS) : ai prog Γ 103 [.v (.int .u64 a),.v (.int .u64 n)] s (fun r s'=>r = .v (.int .u64 (a ^ n % PP : Nat))∧s' = s):=by
 refine aa func103 rfl ntmps103 results103 (by simp) ?_;refine jA ?_;refine jA ?_;refine wK fun K hK=>?_;refine ag ?_;refine aC (fun E s1=>∃ o b m : Nat,E 5 = .v (.int .u64 o)∧E 0 = .v (.int .u64 b)∧E 1 = .v (.int .u64 m)∧o < PP∧b < 2 ^ 64∧m < 2 ^ 64∧o * b ^ m % PP = a ^ n % PP∧s1 = s)
  (fun E _=>match E 1 with | .v (.int _ i)=>i.toNat | _=>0) ?_ ?_
 ·exact ⟨1,a,n,by simp [aF],by simp [aF,bz],by simp [aF,bz],by decide,ha,hn,by simp,rfl⟩
 ·rintro E1 s1 ⟨o,b,m,h5,h0,h1,ho,hb,hm,hinv,rfl⟩ -
  have hPP : PP = 2305843009213693951:=rfl;refine wK fun K2 aV=>?_;by_cases tc : m = 0
  ·subst tc;refine jB (Ai @h5 (Ai @h0 (Ai @h1 (Ai @Int.natCast_zero @Int.lt_irrefl)))) ?_;refine jF ?_;refine aA ?_;simp only [az,ar,if_true];refine hK _ _ ?_;clear hK aV K K2;refine jB @h5 ?_;refine jI ?_;refine jW ⟨?_,rfl⟩;rw [← hinv];simp [Nat.mod_eq_of_lt ho]
  ·have wZ : (0 : Int) < m:=(by omega);refine jB (Ai @h5 (Ai @h0 (Ai @h1 @wZ))) ?_;refine jE ?_;refine ab ?_;refine aV _ _ ?_;clear aV K2;refine wK fun K3 br=>?_;refine ag ?_;refine wK fun K4 ee=>?_;have hand : ll .u64 (m : Int) 1 = ((m % 2 : Nat) : Int):=by
    have:=qD (k:=.u64) rfl m 1 hm (by decide);rw [Nat.and_one_is_mod] at this;exact this
   have xbP : eC .u64 (m : Int) 1 = ((m / 2 : Nat) : Int):=by
    have:=gL (k:=.u64) m 1;simpa [IntKind.bits] using this
   have Qq : ∀ (E2 : Env) (o2 : Nat),E2 5 = .v (.int .u64 o2)→E2 0 = .v (.int .u64 b)→E2 1 = .v (.int .u64 m)→o2 < PP→o2 * (b * b % PP) ^ (m / 2) % PP = a ^ n % PP→K4 E2 s1:=by
    intro E2 o2 e5 e0 e1 pQ yl;refine ee _ _ ?_;clear ee K4;refine jU @e0 fun K hK=>?_;refine ad (A2 b b hb hb s1) ?_;rintro r s' ⟨rfl,rfl⟩;refine jR hK ?_;clear hK K;refine br _ _ ?_;clear br K3;refine jD (Ai @e1 @xbP) ?_;have I0 : b * b % PP < PP:=cQ _;refine ⟨⟨o2,b * b % PP,m / 2,e5,rfl,rfl,pQ,by omega,by omega,yl,rfl⟩,?_⟩;simp only [h1,aF,↓reduceIte];omega
   by_cases xr : m % 2 = 1
   ·refine jB (Ai @h5 (Ai @h0 (Ai @h1 (Ai @hand (Ai @xr @Int.natCast_one))))) ?_;refine jE ?_;refine jU (Ai @h5 @h0) fun K hK=>?_;refine ad (A2 o b (by omega) hb s1) ?_;rintro r s' ⟨rfl,rfl⟩;refine jR hK ?_;clear hK K;refine Qq _ (o * b % PP) rfl h0 h1 (cQ _) ?_;rw [← hinv];have e : b ^ m = b * (b * b) ^ (m / 2):=by
     have : m = 2 * (m / 2) + 1:=(by omega);conv=>lhs; rw [this,Nat.pow_succ,Nat.pow_mul,Nat.pow_two,Nat.mul_comm]
    rw [e,← Nat.mul_assoc,Nat.mul_mod,Nat.mod_mod,← Nat.pow_mod,← Nat.mul_mod]
   ·have ym : m % 2 = 0:=(by omega);refine wS fun K hK=>?_;simp only [↓DN,Qa,Qb,Qc,Qd,Qe,Qf,Qg,Qh,reduceCtorEq,↓reduceIte,Na,Nb,Nc,Nk,Nf,Ng,Nh,Za,Zb,Zc,TT,h5,h0,h1,hand,ym,Int.natCast_zero,Int.reduceBEq,Bool.false_eq_true];refine hK _ _ ?_;clear hK K;refine jF ?_;refine ab ?_;refine Qq _ o h5 h0 h1 ho ?_;rw [← hinv];have e : b ^ m = (b * b) ^ (m / 2):=by
     have : m = 2 * (m / 2):=(by omega);conv=>lhs; rw [this,Nat.pow_mul,Nat.pow_two]
    rw [e,Nat.mul_mod,← Nat.pow_mod,← Nat.mul_mod]
theorem sV : ((0 : Int) == 1) = false:=rfl
theorem Ec (m : Nat) (hm : m < 2 ^ 64) : kA .u64 (m : Int) 2 = ((m / 2 : Nat) : Int):=Ja rfl m 2 hm
theorem Ed (n : Nat) : il (n : Int) 2305843009213693951 = ((n % PP : Nat) : Int):=kK n 2305843009213693951
theorem Ck (n : Nat) : il (n : Int) 2 = ((n % 2 : Nat) : Int):=kK n 2
theorem sW (a b : Nat) (ha : a < 2 ^ 64) (hb : b < 2 ^ 64) (s : AS) : ai prog Γ 126 [.v (.int .u64 a),.v (.int .u64 b)] s (fun r s'=>r = .v (.int .u64 (a * b % PP : Nat))∧s' = s):=by
 have hPP : PP = 2305843009213693951:=rfl;refine aa func126 rfl ntmps126 results126 (by simp) ?_;refine jA ?_;refine jB @Ed ?_;refine jB @Ed ?_;refine jA ?_;refine wK fun K hK=>?_;refine ag ?_;refine aC (fun E s1=>∃ o b' m : Nat,E 5 = .v (.int .u64 o)∧E 0 = .v (.int .u64 b')∧E 1 = .v (.int .u64 m)∧o < PP∧b' < PP∧m < 2 ^ 64∧(o + b' * m) % PP = a * b % PP∧s1 = s)
  (fun E _=>match E 1 with | .v (.int _ i)=>i.toNat | _=>0) ?_ ?_
 ·exact ⟨0,a % PP,b % PP,by simp [aF],by simp [aF],by simp [aF],by decide,cQ _,by have:=cQ b; omega,by rw [Nat.zero_add,← Nat.mul_mod],rfl⟩
 ·rintro E1 s1 ⟨o,b',m,h5,h0,h1,ho,MJ,hm,hinv,rfl⟩ -
  refine wK fun K2 aV=>?_;by_cases tc : m = 0
  ·subst tc;refine jB (Ai @h5 (Ai @h0 (Ai @h1 (Ai @Int.natCast_zero @Int.lt_irrefl)))) ?_;refine jF ?_;refine aA ?_;simp only [az,ar,if_true];refine hK _ _ ?_;clear hK aV K K2;refine jB @h5 ?_;refine jI ?_;refine jW ⟨?_,rfl⟩;rw [← hinv];simp [Nat.mod_eq_of_lt ho]
  ·have wZ : (0 : Int) < m:=(by omega);refine jB (Ai @h5 (Ai @h0 (Ai @h1 @wZ))) ?_;refine jE ?_;refine ab ?_;refine aV _ _ ?_;clear aV K2;refine ag ?_;refine wK fun K4 ee=>?_;have Qq : ∀ (E2 : Env) (o2 : Nat),E2 5 = .v (.int .u64 o2)→E2 0 = .v (.int .u64 b')→E2 1 = .v (.int .u64 m)→o2 < PP→(o2 + (b' + b') % PP * (m / 2)) % PP = a * b % PP→K4 E2 s1:=by
    intro E2 o2 e5 e0 e1 pQ yl;refine ee _ _ ?_;clear ee K4;refine jB (Ai @e0 (Ai (nw b' b' (by omega)) @Ed)) ?_;refine jD (Ai @e1 (Ec m hm)) ?_;have I0 : (b' + b') % PP < PP:=cQ _;refine ⟨⟨o2,(b' + b') % PP,m / 2,e5,rfl,rfl,pQ,by omega,by omega,yl,rfl⟩,?_⟩;simp only [h1,aF,↓reduceIte];omega
   by_cases xr : m % 2 = 1
   ·refine jB (Ai @h5 (Ai @h0 (Ai @h1 (Ai @Ck (Ai @xr @Int.natCast_one))))) ?_;refine jE ?_;refine jD (Ai @h5 (Ai @h0 (Ai (nw o b' (by omega)) @Ed))) ?_;refine Qq _ ((o + b') % PP) rfl h0 h1 (cQ _) ?_;rw [← hinv];have e : b' * m = b' + (b' + b') * (m / 2):=by
     have : m = 2 * (m / 2) + 1:=(by omega);conv=>lhs; rw [this]
     rw [Nat.mul_add,Nat.mul_one,← Nat.mul_assoc,Nat.mul_two,Nat.add_comm]
    rw [e,← Nat.add_assoc,Nat.add_mod,Nat.mod_mod,Nat.mod_mul_mod,← Nat.add_mod]
   ·have ym : m % 2 = 0:=(by omega);refine jB (Ai @h5 (Ai @h0 (Ai @h1 (Ai @Ck (Ai @ym (Ai @Int.natCast_zero @sV)))))) ?_;refine wC fun X Y hX hY=>?_;refine jP (Ai @DB @sV) ?_;refine hY ?_;clear hX hY X Y;refine ab ?_;refine Qq _ o h5 h0 h1 ho ?_;rw [← hinv];have e : b' * m = (b' + b') * (m / 2):=by
     have : m = 2 * (m / 2):=(by omega);conv=>lhs; rw [this]
     rw [← Nat.mul_assoc,Nat.mul_two]
    rw [e,Nat.add_mod,Nat.mod_mul_mod,← Nat.add_mod]
theorem Cl (a n : Nat) (ha : a < 2 ^ 64) (hn : n < 2 ^ 64) (s : AS) : ai prog Γ 68 [.v (.int .u64 a),.v (.int .u64 n)] s (fun r s'=>r = .v (.int .u64 (a ^ n % PP : Nat))∧s' = s):=by
 have hPP : PP = 2305843009213693951:=rfl;refine aa func68 rfl ntmps68 results68 (by simp) ?_;refine jA ?_;refine jA ?_;refine jB @Ed ?_;refine wK fun K hK=>?_;refine ag ?_;refine aC (fun E s1=>∃ o b m : Nat,E 5 = .v (.int .u64 o)∧E 0 = .v (.int .u64 b)∧E 1 = .v (.int .u64 m)∧o < PP∧b < 2 ^ 64∧m < 2 ^ 64∧o * b ^ m % PP = a ^ n % PP∧s1 = s)
  (fun E _=>match E 1 with | .v (.int _ i)=>i.toNat | _=>0) ?_ ?_
 ·exact ⟨1,a % PP,n,by simp [aF],by simp [aF],by simp [aF,bz],by decide,by have:=cQ a; omega,hn,by rw [Nat.one_mul,← Nat.pow_mod],rfl⟩
 ·rintro E1 s1 ⟨o,b,m,h5,h0,h1,ho,hb,hm,hinv,rfl⟩ -
  refine wK fun K2 aV=>?_;by_cases tc : m = 0
  ·subst tc;refine jB (Ai @h5 (Ai @h0 (Ai @h1 (Ai @Int.natCast_zero @Int.lt_irrefl)))) ?_;refine jF ?_;refine aA ?_;simp only [az,ar,if_true];refine hK _ _ ?_;clear hK aV K K2;refine jB @h5 ?_;refine jI ?_;refine jW ⟨?_,rfl⟩;rw [← hinv];simp [Nat.mod_eq_of_lt ho]
  ·have wZ : (0 : Int) < m:=(by omega);refine jB (Ai @h5 (Ai @h0 (Ai @h1 @wZ))) ?_;refine jE ?_;refine ab ?_;refine aV _ _ ?_;clear aV K2;refine ag ?_;refine wK fun K4 ee=>?_;have Qq : ∀ (E2 : Env) (o2 : Nat),E2 5 = .v (.int .u64 o2)→E2 0 = .v (.int .u64 b)→E2 1 = .v (.int .u64 m)→o2 < PP→o2 * (b * b % PP) ^ (m / 2) % PP = a ^ n % PP→K4 E2 s1:=by
    intro E2 o2 e5 e0 e1 pQ yl;refine ee _ _ ?_;clear ee K4;refine jS @e0 fun K hK=>?_;refine ad (sW b b hb hb s1) ?_;rintro r s' ⟨rfl,rfl⟩;refine jR hK ?_;clear hK K;refine jD (Ai @e1 (Ec m hm)) ?_;have I0 : b * b % PP < PP:=cQ _;refine ⟨⟨o2,b * b % PP,m / 2,e5,rfl,rfl,pQ,by omega,by omega,yl,rfl⟩,?_⟩;simp only [h1,aF,↓reduceIte];omega
   by_cases xr : m % 2 = 1
   ·refine jB (Ai @h5 (Ai @h0 (Ai @h1 (Ai @Ck (Ai @xr @Int.natCast_one))))) ?_;refine jE ?_;refine jU (Ai @h5 @h0) fun K hK=>?_;refine ad (sW o b (by omega) hb s1) ?_;rintro r s' ⟨rfl,rfl⟩;refine jR hK ?_;clear hK K;refine Qq _ (o * b % PP) rfl h0 h1 (cQ _) ?_;rw [← hinv];have e : b ^ m = b * (b * b) ^ (m / 2):=by
     have : m = 2 * (m / 2) + 1:=(by omega);conv=>lhs; rw [this,Nat.pow_succ,Nat.pow_mul,Nat.pow_two,Nat.mul_comm]
    rw [e,← Nat.mul_assoc,Nat.mul_mod,Nat.mod_mod,← Nat.pow_mod,← Nat.mul_mod]
   ·have ym : m % 2 = 0:=(by omega);refine jB (Ai @h5 (Ai @h0 (Ai @h1 (Ai @Ck (Ai @ym (Ai @Int.natCast_zero @sV)))))) ?_;refine wC fun X Y hX hY=>?_;refine jP (Ai @DB @sV) ?_;refine hY ?_;clear hX hY X Y;refine ab ?_;refine Qq _ o h5 h0 h1 ho ?_;rw [← hinv];have e : b ^ m = (b * b) ^ (m / 2):=by
     have : m = 2 * (m / 2):=(by omega);conv=>lhs; rw [this,Nat.pow_mul,Nat.pow_two]
    rw [e,Nat.mul_mod,← Nat.pow_mod,← Nat.mul_mod]
def sX : List UInt8:=[107,101,121]
def cI (x : List UInt8) : Nat:=1 + gM (Kdf.label x sX [] 8) % 2305843009213693949
theorem Ee : Kdf.fits sX [] 8 = true:=by decide
theorem qm (x : List UInt8) : (Kdf.label x sX [] 8).length = 8:=by
 rw [Kdf.label,Ee,if_pos rfl];exact Kdf.gu _ _ _
theorem tH (x : List UInt8) : cI x < 2305843009213693950:=by unfold cI; omega
theorem lP (n : Nat) : dP .u64 1 (il (n : Int) 2305843009213693949) = ((1 + n % 2305843009213693949 : Nat) : Int):=by
 have h : il (n : Int) 2305843009213693949 = ((n % 2305843009213693949 : Nat) : Int):=kK n 2305843009213693949;rw [h];exact nw 1 _ (by omega)
theorem xbQ (l : List UInt8) (h : l.length = 8) : (iM 8 (l,0)).1 = gM l:=by
 have e : List.take 8 l = l:=List.take_of_length_le (by omega);simp [iM,dK,h,e]
theorem jy (n : Nat) (hn : n < 2 ^ 64) (s : AS) : ai prog Γ 187 [.v (.int .u64 n)] s (fun r s'=>r = aj (be 8 n) .any∧s' = s):=by
 refine aa func187 rfl ntmps187 results187 (by simp) ?_;refine jA ?_;refine jQ fun K hK=>?_;refine ad (pH s) ?_;rintro r s1 ⟨p,rfl,hp⟩;refine jR hK ?_;clear hK K;refine jQ fun K hK=>?_;refine ad (kj s s1 p ([],false) n hn (by simp) hp) ?_;rintro r s2 ⟨rfl,Ew⟩;refine jR hK ?_;clear hK K;have Ko : dQ 8 n ([],false) = (be 8 n,false):=(by simp [dQ]);rw [Ko] at Ew;refine jK (hM s s2 p _ (by simp) Ew) ?_;rintro s3 rfl;refine jA ?_;refine jI ?_;exact ⟨_,s,AV.aB.refl _,Ew.le,rfl,rfl⟩
theorem ng (dO : Γ 0 = dV Sha.H0) (hG : Γ 1 = Sha.K.map wV) (x : List UInt8) (hx : x.length≤2 ^ 36) (s : AS) : ai prog Γ 41 [aj x .any] s (fun r s'=>r = .v (.int .u64 (cI x))∧s' = s):=by
 refine aa func41 rfl ntmps41 results41 (by simp) ?_;have hlen:=qm x;have sR:=jj (Γ:=Γ) dO hG x sX [] 8 hx (by decide) (by decide) (by decide) s;have my : cI x = 1 + gM (Kdf.label x sX [] 8) % 2305843009213693949:=rfl;generalize cI x = k at *
 generalize Kdf.label x sX [] 8 = l at *
 refine jA ?_;refine jK (ai.gz (fU.aB.cons (AV.aB.refl _) (fU.aB.cons (AV.aB.refl _) (fU.aB.cons (AV.aI (sz:=1)) (fU.aB.refl _)))) sR) ?_;rintro s1 rfl;refine jQ fun K hK=>?_;refine ad (qR l s1 (by omega)) ?_;rintro r s2 ⟨p,rfl,hp⟩;refine jM ?_;refine ad (BZ s1 s2 p _ hp) ?_;rintro r s3 ⟨rfl,hp3⟩;rw [xbQ l hlen];refine jV @lP hK ?_;clear hK K;refine jI ?_;rw [my,lP];exact ⟨_,s1,AV.aB.refl _,hp3.le,rfl,rfl⟩
theorem pc (x : List UInt8) (hx : x.length≤2 ^ 36) (s : AS) : ai prog Γ 18 [.v (.string ⟨x.toArray⟩)] s (fun r s'=>r = .v (.int .u64 (cI x))∧s' = s):=by
 refine aa func18 rfl ntmps18 results18 (by simp) ?_;have hlen:=qm x;have sR:=ph (Γ:=Γ) x sX [] 8 hx Ee s;have my : cI x = 1 + gM (Kdf.label x sX [] 8) % 2305843009213693949:=rfl;generalize cI x = k at *
 generalize Kdf.label x sX [] 8 = l at *
 refine jA ?_;refine jQ fun K hK=>?_;refine ad sR ?_;rintro r s1 ⟨rfl,rfl⟩;refine jM ?_;refine ad (DJ l (by omega) s1) ?_;rintro r s2 ⟨rfl,rfl⟩;refine jV @lP hK ?_;clear hK K;refine jI ?_;rw [my,lP];exact jW ⟨rfl,rfl⟩
theorem eH (k : Nat) (hk : k < 2 ^ 64) (s : AS) : ai prog Γ 43 [.v (.int .u64 k)] s (fun r s'=>r = .v (.int .u64 (3 ^ k % PP : Nat))∧s' = s):=by
 refine aa func43 rfl ntmps43 results43 (by simp) ?_;have h:=A3 (Γ:=Γ) 3 k (by decide) hk s;generalize 3 ^ k % PP = A at *
 refine jA ?_;refine jK h ?_;rintro s1 rfl;exact jJ
theorem lJ (k : Nat) (hk : k < 2 ^ 64) (s : AS) : ai prog Γ 19 [.v (.int .u64 k)] s (fun r s'=>r = .v (.int .u64 (3 ^ k % PP : Nat))∧s' = s):=by
 refine aa func19 rfl ntmps19 results19 (by simp) ?_;have h:=Cl (Γ:=Γ) 3 k (by decide) hk s;generalize 3 ^ k % PP = A at *
 refine jA ?_;refine jK h ?_;rintro s1 rfl;exact jJ
theorem nW (k p : Nat) (hk : k < 2 ^ 64) (hp : p < 2 ^ 64) (s : AS) : ai prog Γ 154 [.v (.int .u64 k),.v (.int .u64 p)] s (fun r s'=>r = aj (be 8 (p ^ k % PP)) .any∧s' = s):=by
 refine aa func154 rfl ntmps154 results154 (by simp) ?_;have h:=A3 (Γ:=Γ) p k hp hk s;have hl : p ^ k % PP < 2 ^ 64:=(by have:=cQ (p ^ k); have:=Hd; omega);generalize p ^ k % PP = A at *
 refine jA ?_;refine jQ fun K hK=>?_;refine ad h ?_;rintro r s1 ⟨rfl,rfl⟩;refine jM ?_;refine ad (jy A hl s1) ?_;rintro r s2 ⟨rfl,rfl⟩;refine jR hK ?_;clear hK K;exact jJ
end Go.Proofs.YtbiefppedlodiaaGreatDoor
namespace Go.AM
namespace Hpke
def sX : List UInt8:=[107,101,121]
def yf : List UInt8:=[110,111,110,99,101]
def pm : Nat→Nat→Nat→Nat
  | 0,_,_=>1
  | f + 1,a,n=>if n % 2 = 1 then a * pm f (a * a % PP) (n / 2) % PP else pm f (a * a % PP) (n / 2)
theorem DC : ∀ (f a n : Nat),n < 2 ^ f→pm f a n % PP = a ^ n % PP
  | 0,a,n,h=>by
    obtain rfl : n = 0:=(by simpa using h);rfl
  | f + 1,a,n,h=>by
    have ih:=DC f (a * a % PP) (n / 2) (by rw [Nat.pow_succ] at h; omega);have e : a ^ n = a ^ (n % 2) * (a * a) ^ (n / 2):=by
      conv=>lhs; rw [← Nat.div_add_mod n 2]
      rw [Nat.pow_add,Nat.pow_mul,Nat.mul_comm,Nat.pow_two]
    rw [← Nat.pow_mod] at ih;rw [pm];split
    · rename_i h1;rw [e,h1,Nat.pow_one,Nat.mod_mod,Nat.mul_mod,ih,← Nat.mul_mod]
    · rename_i h1;have h0 : n % 2 = 0:=(by omega);rw [e,h0,Nat.pow_zero,Nat.one_mul,ih]
def sec (shared iW to : Nat) : List UInt8:=Mac.tag [] (be 8 shared ++ (be 8 iW ++ be 8 to))
def hk (s info : List UInt8) : List UInt8:=Kdf.label s sX info 48
def hn (s info : List UInt8) : List UInt8:=Kdf.label s yf info 16
def ld : List UInt8:=[58,81,223,243,45,240,153,21]
def ki : List UInt8:=[6,141,179,206,59,220,75,205,198,77,58,67,99,194,233,122,153,41,163,200,98,168,177,210,181,231,29,134,148,66,107,113,124,242,131,217,24,36,134,132,77,156,59,74,50,173,130,234]
def m0 : List UInt8:=[144,78,103,61]
def t0 : List UInt8:=[114,25,121,18,165,57,11,147,19,26,64,233,1,176,44,69]
end Hpke
end Go.AM
