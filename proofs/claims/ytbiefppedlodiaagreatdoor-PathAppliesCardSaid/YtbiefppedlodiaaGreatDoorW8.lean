/- Contracts of functions, each walked once; each theorem states its conditions. -/
import Derived.Test.YtbiefppedlodiaaGreatDoorAMp6
import Derived.Test.YtbiefppedlodiaaGreatDoorW1
import Derived.Test.YtbiefppedlodiaaGreatDoorW7
import Derived.Test.YtbiefppedlodiaaGreatDoorW4
import Derived.Test.YtbiefppedlodiaaGreatDoorW6
import Derived.Test.YtbiefppedlodiaaGreatDoorW2
set_option linter.unusedSimpArgs false
set_option linter.unusedVariables false
open Nat renaming reduceLT → Na, reduceLeDiff → Nb, reduceEqDiff → Nc, reduceAdd → Nk, reduceMul → Nf, reducePow → Ng, reduceSub → Nh, reduceBEq → Nz
open Int renaming reduceLT → Za, reduceLE → Zb, reduceToNat → Zc
open And renaming intro → Ai
open Go.AM renaming ashift → Qa, aconv → Qb, aindexAddr → Qc, aindex → Qd, aslice → Qe, abuiltin → Qf, awp_reg_seq → wS, awp_reg_end → wE, awp_seq_k → wK, awp_cond_k → wC
open Go.AM.AV renaming cells → Qg, one → Qh
set_option maxRecDepth 100000
set_option maxHeartbeats 8000000
namespace Go.Proofs.YtbiefppedlodiaaGreatDoor
open Go Go.AM Go.Proofs Tryz
variable{Γ:Nat→List AV}
theorem ud(o:Nat)(l:List UInt8)(h0:l≠[])(hl:l.length≤2^40)(s:AS)(ho:s.aw o=some (l.map ai)):
  aj prog Γ 90 [.gR o 0 1 l.length l.length] s (fun r s'=>dS s l r s'):=by
 refine aa func90 rfl ntmps90 results90 (by simp) ?_;have hp:¬l.length=0:=fun e=>h0 (List.eq_nil_of_length_eq_zero e);refine jA ?_;refine wK fun K hK=>?_;refine jA ?_;refine jF ?_;refine ab ?_;refine hK _ _ ?_;clear hK K;refine wS fun K hK=>?_;simp only[↓DN,Qa,Qb,Qc,Qd,Qe,Qf,Qg,Qh,reduceCtorEq,↓reduceIte,Na,Nb,Nc,Nk,Nf,Ng,Nh,Za,Zb,Zc,TT,ho,hp,Nat.le_refl,List.take_length];refine⟨by omega,by omega,fun t ht=>hK _ _ ?_⟩;clear hK K;refine jI ?_;exact⟨_,_,AV.aB.refl _,AS.le.refl _,AS.bj (AS.le.refl s) ht 0,.inr ⟨t,0,ht,by simp[AS.bw,aH],rfl⟩⟩
theorem _root_.Go.AM.dS.behind{s s':AS}{l:List UInt8}{r:AV}{o:Nat}{cs:List AV}(h:dS (s.set o cs) l r s')(ho:s.aw o=none):dS s l r s':=
 ⟨AS.le.trans (AS.aE (AS.le.refl s) ho _) h.1,h.2⟩
theorem Tx:((64:Nat):Int)=64:=rfl
theorem oS(l:List UInt8)(hl:l.length=64)(x:UInt8)(s:AS):
  aj prog Γ 213 [.agg (l.map ai),ai x] s (fun r s'=>dS s (Mac.turn x l) r s'):=by
 refine aa func213 rfl ntmps213 results213 (by simp) ?_;have uj:(l.map ai).length=64:=(by rw[List.length_map,hl]);rw[show ai x=.v (.int .u8 (x.toNat:Int)) from rfl];refine jS @uj fun K hK=>?_;intro o ho;refine hK _ _ ?_;clear hK K;refine wK fun K hK=>?_;refine jA ?_;refine ah ?_;refine aD (fun E s2=>∃i:Nat,i≤64∧E 1=.v (.int .u8 (x.toNat:Int))∧E 2=.ptr o 0∧E 6=.v (.int .i64 i)∧s2=s.set o ((Mac.part x l i).map ai))
  (fun E _=>match E 6 with |.v (.int _ y)=>64-y.toNat|_=>0) ?_ ?_
 ·exact⟨0,by omega,by simp only[aH,bC,Nc,↓reduceIte,List.getD_cons_succ,List.getD_cons_zero],rfl,rfl,by rw[Mac.Jo]⟩
 ·rintro E2 s2 ⟨i,hi,g1,g2,g6,rfl⟩ -
  by_cases aY:i<64
  ·have bJ:(i:Int)<64:=(by omega);have oZ:(i:Int)<((64:Nat):Int):=(by omega);have fg:(0:Int)≤(i:Int):=(by omega);have fb:=Mac.Mc x l i (by omega);have cr:=Mac.Md x l i (by omega);have hlen:((Mac.part x l i).map ai).length=64:=(by rw[List.length_map,Mac.EM,hl]);have MK:=Mac.yR (l.getD i 0) x;generalize l.getD i 0=c at *
   rw[show ai c=.v (.int .u8 (c.toNat:Int)) from rfl] at fb;rw[show ai (c ^^^ x)=.v (.int .u8 ((c ^^^ x).toNat:Int)) from rfl] at cr;refine jB (Ai @g6 (decide_eq_true bJ)) ?_;refine wK fun K2 aX=>?_;refine jE ?_;refine ab ?_;refine aX _ _ ?_;clear aX K2;refine wK fun K3 br=>?_;refine ah ?_;refine jB @g6 ?_;generalize NG:(Mac.part x l i).map ai=X0 at *
   refine jU (Ai @g1 (Ai @g2 (Ai @g6 (Ai @fg (Ai @bJ (Ai @oZ (Ai @hlen (Ai @fb (Ai @MK (Ai @cr @Tx)))))))))) fun K hK=>?_;refine⟨by omega,?_⟩;refine hK _ _ ?_;clear hK K;simp only[az,ar,if_true,if_false];refine br _ _ ?_;clear br K3;refine jD (Ai @g6 (cN i (by omega))) ?_;refine⟨⟨i+1,by omega,g1,g2,rfl,rfl⟩,?_⟩;simp only[g6,aH,↓reduceIte];omega
  ·have bJ:¬(i:Int)<64:=(by omega);obtain rfl:i=64:=(by omega);refine jB (Ai @g6 (decide_eq_false bJ)) ?_;refine wK fun K2 aX=>?_;refine jF ?_;refine aC ?_;simp only[az,ar,if_true];clear aX K2;refine hK _ _ ?_;clear hK K;rw[Mac.Mb x l 64 (by omega)];have me:(Mac.turn x l).length=64:=(by rw[Mac.nz,hl]);refine jS (Ai @g2 @Int.le_refl) fun K hK=>?_;have hc:=ud (Γ:=Γ) o (Mac.turn x l) (by rw[←List.length_pos_iff];omega) (by omega) (s.set o ((Mac.turn x l).map ai)) (AS.ae _ _ _);rw[me] at hc;refine ad hc ?_;intro r s3 bu;refine jR hK ?_;clear hK K;refine jI ?_;exact⟨_,_,AV.aB.refl _,AS.le.refl _,bu.behind ho⟩
theorem _root_.Go.AM.dS.under{s s1 s2:AS}{l:List UInt8}{r:AV}(h:dS s1 l r s2)(hle:s.le s1):dS s l r s2:=by
 refine⟨AS.le.trans hle h.1,?_⟩;rcases h.2 with h|⟨t,e,h1,h2,h3⟩
 ·exact .inl h
 ·refine .inr ⟨t,e,?_,h2,h3⟩;cases hs:s.own t with
  |none=>rfl
  |some g=>rw[hle.own t g hs] at h1;cases h1
theorem xcY:bq prog 232=some (List.replicate 64 (.v (.int .u8 0))):=by kernel_rfl
theorem ot(dO:Γ 0=ef Sha.H0)(hG:Γ 1=Sha.K.map wV)(key:List UInt8)(ls:List (List UInt8))(sp:Sp)(hk:key.length≤2^38)(hn:ls.length≤2^38)(hl:ls.flatten.length≤2^38)(s:AS):
  aj prog Γ 180 [al key .any,.sl 1 ls.length (gl ls) sp] s (fun r s'=>dS s (Mac.tag key ls.flatten) r s'):=by
 refine aa func180 rfl ntmps180 results180 (by simp) ?_;refine jA ?_;refine wK fun K hK=>?_;have vH:∀(E1:Env)(s1:AS)(sp1:Sp),E1 0=.sl 1 (Mac.key key).length ((Mac.key key).map ai) sp1→E1 1=.sl 1 ls.length (gl ls) sp→s.le s1→K E1 s1:=by
  intro E1 s1 sp1 e0 e1 hle;refine hK _ _ ?_;clear hK K;have qY:=Mac.Ma key;generalize Yi:Mac.key key=kk at *
  refine jS @xcY fun K hK=>?_;intro o ho;refine hK _ _ ?_;clear hK K;have h0:(0:Int)≤((64:Nat):Int):=(by decide);have dM:(kk.map ai).take kk.length=kk.map ai:=List.take_of_length_le (by simp);have BV:min kk.length 64=kk.length:=Nat.min_eq_left qY;have IV:bn (List.replicate 64 (.v (.int .u8 0))) 0 (kk.map ai)=(Mac.fill kk).map ai:=Mac.GQ kk qY;refine wS fun K hK=>?_;simp only[↓DN,Qa,Qb,Qc,Qd,Qe,Qf,Qg,Qh,reduceCtorEq,↓reduceIte,Na,Nb,Nc,Nk,Nf,Ng,Nh,Za,Zb,Zc,TT,e0,h0,Int.le_refl,ite_self,BV,dM,IV,List.length_replicate,qY];refine hK _ _ ?_;clear hK K;have pR:=Mac.qb kk qY;have ZH:((Mac.fill kk).map ai).length=64:=(by rw[List.length_map,pR]);have htf:((Mac.fill kk).map ai).take 64=(Mac.fill kk).map ai:=List.take_of_length_le (by omega);have ZI:∀x:AV,List.replicate 2 x=[x,x]:=fun _=>rfl;generalize hb:Mac.fill kk=bl at *
  have NF:=oS (Γ:=Γ) bl pR 54;have OH:=oS (Γ:=Γ) bl pR 92;have tl1:(Mac.turn 54 bl).length=64:=(by rw[Mac.nz,pR]);have tl2:(Mac.turn 92 bl).length=64:=(by rw[Mac.nz,pR]);rw[show ai 54=.v (.int .u8 54) from rfl] at NF;rw[show ai 92=.v (.int .u8 92) from rfl] at OH;refine jS (Ai @htf (Ai @ZH @Nat.le_refl)) fun K hK=>?_;refine ad (NF _) ?_;intro r s2 bu;have ga:s.le s2:=(AS.le.trans hle (AS.aE (AS.le.refl s1) ho _)).trans bu.1;have qG:s2.aw o=some (bl.map ai):=bu.1.aw _ _ (AS.ae _ _ _);have HC:=bu.aB;obtain⟨t1,g1,rfl⟩:=cn bu (by rw[←List.length_pos_iff,tl1];decide);clear bu;refine jN @e1 ?_;refine ad (kU ls sp (by omega) (by omega) _) ?_;intro r s3 bu;have gQ:s.le s3:=AS.le.trans ga bu.1;have An:s3.aw o=some (bl.map ai):=bu.1.aw _ _ qG;have hw2:=bu.aB;have gC:=lq (Γ:=Γ) dO hG [Mac.turn 54 bl,ls.flatten] .new (by simp) (by simp only[List.flatten_cons,List.flatten_nil,List.append_nil,List.length_append,tl1];omega) s3;rw[show[Mac.turn 54 bl,ls.flatten].flatten=Mac.turn 54 bl++ls.flatten from by simp] at gC;have y8:Sha.sum (Mac.turn 54 bl++ls.flatten)=Mac.inner key ls.flatten:=(by rw[Mac.inner,Yi,hb]);have Fc:Sha.sum (Mac.turn 92 bl++Mac.inner key ls.flatten)=Mac.tag key ls.flatten:=(by rw[Mac.tag,Yi,hb]);rw[y8] at gC;have ZJ:∀(E2:Env)(s4:AS)(r:AV),E2 5=.ptr o 0→E2 6=r→dS s3 (Mac.inner key ls.flatten) r s4→K E2 s4:=by
   intro E2 s4 r g5 g6 bu;refine hK _ _ ?_;clear hK K;have eM:s.le s4:=AS.le.trans gQ bu.1;have CP:s4.aw o=some (bl.map ai):=bu.1.aw _ _ An;have Qy:=bu.aB;have N3:=Mac.Br key ls.flatten;obtain⟨t3,g3,rfl⟩:=cn bu (by rw[←List.length_pos_iff,N3];decide);clear bu;refine jS (Ai @g5 (Ai @CP (Ai @htf (Ai @ZH @Nat.le_refl)))) fun K hK=>?_;refine ad (OH _) ?_;intro r s5 bu;have hw4:=bu.aB;have fR:s.le s5:=AS.le.trans eM bu.1;obtain⟨t4,g4,rfl⟩:=cn bu (by rw[←List.length_pos_iff,tl2];decide);clear bu;have ng:=lq (Γ:=Γ) dO hG [Mac.turn 92 bl,Mac.inner key ls.flatten] .new (by simp) (by simp only[List.flatten_cons,List.flatten_nil,List.append_nil,List.length_append,tl2,N3];omega) s5;rw[show[Mac.turn 92 bl,Mac.inner key ls.flatten].flatten=Mac.turn 92 bl++Mac.inner key ls.flatten from by simp,Fc] at ng;refine jN (Ai @g6 @ZI) ?_;refine ad (aj.gL (fe.aB.cons (AV.sX (fe.aB.cons hw4 (fe.aB.cons Qy fe.aB.nil))) fe.aB.nil) ng) ?_;intro r s6 bu;refine jR hK ?_;clear hK K;refine jI ?_;exact⟨_,_,AV.aB.refl _,AS.le.refl _,bu.under fR⟩
  rcases bu.2 with⟨_,rfl⟩|⟨t2,g2,_,_,rfl⟩;all_goals
   refine jN @ZI ?_;refine ad (aj.gL (fe.aB.cons (AV.sX (fe.aB.cons HC (fe.aB.cons hw2 fe.aB.nil))) fe.aB.nil) gC) ?_;intro r s4 bu;refine jM ?_;refine ZJ _ _ r ?_ ?_ bu
   ·simp only[aH,Nc,↓reduceIte]
   ·simp only[aH,↓reduceIte]
 by_cases Fe:64<key.length
 ·have mi:Mac.key key=Sha.sum key:=(by rw[Mac.key,if_pos Fe]);rw[mi] at vH;refine jB (decide_eq_true (show(64:Int)<(key.length:Int) by omega)) ?_;refine jE ?_;refine wE fun K hK=>?_;simp only[↓DN,Qa,Qb,Qc,Qd,Qe,Qf,Qg,Qh,reduceCtorEq,↓reduceIte,Na,Nb,Nc,Nk,Nf,Ng,Nh,Za,Zb,Zc,TT,List.replicate_one];have mh:=lq (Γ:=Γ) dO hG [key] .new (by simp) (by simp;omega) s;rw[show[key].flatten=key from by simp] at mh;refine ad mh ?_;intro r s1 bu;obtain⟨t,g,rfl⟩:=cn bu (by rw[←List.length_pos_iff,Sha.de];decide);refine jR hK ?_;clear hK K;simp only[az];refine vH _ _ (.own t g) ?_ ?_ bu.1
  ·simp only[aH,↓reduceIte]
  ·simp only[aH,bC,Nc,↓reduceIte,List.getD_cons_succ,List.getD_cons_zero]
 ·have mi:Mac.key key=key:=(by rw[Mac.key,if_neg Fe]);rw[mi] at vH;refine jB (decide_eq_false (show ¬(64:Int)<(key.length:Int) by omega)) ?_;refine jF ?_;refine ab ?_;simp only[az];refine vH _ _ .any ?_ ?_ (AS.le.refl s)
  ·simp only[aH,bC,Nc,↓reduceIte,List.getD_cons_succ,List.getD_cons_zero,al]
  ·simp only[aH,bC,Nc,↓reduceIte,List.getD_cons_succ,List.getD_cons_zero]
theorem ML(k:List UInt8)(i:Nat)(h:i<k.length)(hk:k.length≤64):(Mac.fill k)[i]'(by rw[Mac.qb k hk];omega)=k[i]:=by
 simp only[Mac.fill];rw[List.getElem_append_left h]
theorem MM(k:List UInt8)(i:Nat)(h:¬i<k.length)(hi:i<64)(hk:k.length≤64):(Mac.fill k)[i]'(by rw[Mac.qb k hk];omega)=0:=by
 simp only[Mac.fill];rw[List.getElem_append_right (by omega),List.getElem_replicate]
theorem JG(x:UInt8)(l:List UInt8)(i:Nat)(h:i<l.length):Mac.turn x (l.take (i+1))=Mac.turn x (l.take i)++[l[i] ^^^ x]:=by
 rw[List.take_succ_eq_append_getElem h];simp only[Mac.turn,List.map_append,List.map_cons,List.map_nil]
theorem oT(key:List UInt8)(hk:key.length≤64)(x:UInt8)(s:AS):
  aj prog Γ 203 [.v (.string ⟨key.toArray⟩),.v (.int .u8 (x.toNat:Int))] s (fun r s'=>r=.v (.string ⟨(Mac.turn x (Mac.fill key)).toArray⟩)∧s'=s):=by
 refine aa func203 rfl ntmps203 results203 (by simp) ?_;have pR:=Mac.qb key hk;refine jA ?_;refine jA ?_;refine wK fun K hK=>?_;refine jA ?_;refine ah ?_;refine aD (fun E s1=>∃i:Nat,i≤64∧E 0=.v (.string ⟨key.toArray⟩)∧E 1=.v (.int .u8 (x.toNat:Int))∧E 6=.v (.int .i64 i)∧dS s (Mac.turn x ((Mac.fill key).take i)) (E 5) s1)
  (fun E _=>match E 6 with |.v (.int _ i)=>64-i.toNat|_=>0) ?_ ?_
 ·exact⟨0,Nat.zero_le _,by simp only[aH,bC,Nc,↓reduceIte,List.getD_cons_succ,List.getD_cons_zero],by simp only[aH,bC,Nc,↓reduceIte,List.getD_cons_succ,List.getD_cons_zero],rfl,by simp only[aH,Nc,↓reduceIte];exact dS.nil s⟩
 ·rintro E1 s1 ⟨i,hi,e0,e1,e6,bu⟩ -
  refine wK fun K2 aX=>?_;by_cases aY:i<64
  ·have bJ:(i:Int)<64:=(by omega);have cl:(0:Int)≤(i:Int):=(by omega);have hts:=JG x (Mac.fill key) i (by omega);have T2:=ML key i;have Oh:=MM key i;refine jB (Ai @e6 (decide_eq_true bJ)) ?_;refine jE ?_;refine ab ?_;refine aX _ _ ?_;clear aX K2;refine wK fun K3 br=>?_;refine ah ?_;refine jA ?_;refine wK fun K4 eb=>?_;have vH:∀(E2:Env)(c:UInt8),(Mac.fill key)[i]'(by omega)=c→E2 0=.v (.string ⟨key.toArray⟩)→E2 1=.v (.int .u8 (x.toNat:Int))→E2 6=.v (.int .i64 i)→E2 5=E1 5→E2 7=.v (.int .u8 (c.toNat:Int))→K4 E2 s1:=by
    intro E2 c hc f0 f1 f6 f5 f7;refine eb _ _ ?_;clear eb K4;rw[hc] at hts;have MK:=Mac.yR c x;generalize tT:E1 5=r6 at bu f5;refine wE fun K hK=>?_;simp only[↓DN,Qa,Qb,Qc,Qd,Qe,Qf,Qg,Qh,reduceCtorEq,↓reduceIte,Na,Nb,Nc,Nk,Nf,Ng,Nh,Za,Zb,Zc,TT,f0,f1,f5,f6,f7,MK,List.replicate_one];refine dk (ds:=[c ^^^ x]) bu rfl rfl T.c5 T.b5 (by simp[Mac.turn];omega) ?_;intro r2 s2 h2;rw[←hts] at h2;refine hK _ _ ?_;clear hK K;simp only[az,ar,if_true,if_false];refine br _ _ ?_;clear br K3;refine jD (Ai @f6 (cN i (by omega))) ?_;refine⟨⟨i+1,by omega,f0,f1,rfl,by simpa only[aH,Nc,↓reduceIte] using h2⟩,?_⟩;simp only[e6,aH,↓reduceIte];omega
   by_cases hik:i<key.length
   ·have fb:=PL key i hik;have hg:=T2 hik hk;generalize key[i]=c at *
    refine jB (Ai @e0 (Ai @e6 (Ai @ej (decide_eq_true (show(i:Int)<(key.length:Int) by omega))))) ?_;refine jE ?_;refine jU (Ai @e0 (Ai @e6 (Ai @cl @fb))) fun K hK=>?_;refine hK _ _ ?_;clear hK;simp only[az];refine vH _ c hg ?_ ?_ ?_ ?_ ?_
    ·simp only[aH,e0,Nc,↓reduceIte]
    ·simp only[aH,e1,Nc,↓reduceIte]
    ·simp only[aH,e6,Nc,↓reduceIte]
    ·simp only[aH,Nc,↓reduceIte]
    ·simp only[aH,↓reduceIte];rfl
   ·have hg:=Oh hik aY hk;refine jB (Ai @e0 (Ai @e6 (Ai @ej (decide_eq_false (show ¬(i:Int)<(key.length:Int) by omega))))) ?_;refine jF ?_;refine ab ?_;simp only[az];refine vH _ 0 hg ?_ ?_ ?_ ?_ ?_
    ·simp only[aH,e0,Nc,↓reduceIte]
    ·simp only[aH,e1,Nc,↓reduceIte]
    ·simp only[aH,e6,Nc,↓reduceIte]
    ·simp only[aH,Nc,↓reduceIte]
    ·simp only[aH,Nc,↓reduceIte];rfl
  ·have bJ:¬(i:Int)<64:=(by omega);obtain rfl:i=64:=(by omega);refine jB (Ai @e6 (decide_eq_false bJ)) ?_;refine jF ?_;refine aC ?_;simp only[az,ar,if_true];clear aX K2;refine hK _ _ ?_;clear hK K;rw[List.take_of_length_le (by omega)] at bu;have me:(Mac.turn x (Mac.fill key)).length=64:=(by rw[Mac.nz,pR]);have hle:=bu.1;obtain⟨t,g,e5⟩:=cn bu (by rw[←List.length_pos_iff,me];decide);refine jB @e5 ?_;refine jI ?_;exact⟨_,_,AV.aB.refl _,hle,rfl,rfl⟩
theorem C1(key l:List UInt8)(hk:key.length≤2^38)(hl:l.length≤2^38)(s:AS):
  aj prog Γ 166 [.v (.string ⟨key.toArray⟩),.v (.string ⟨l.toArray⟩)] s (fun r s'=>r=.v (.string ⟨(Mac.tag key l).toArray⟩)∧s'=s):=by
 refine aa func166 rfl ntmps166 results166 (by simp) ?_;refine jA ?_;refine wK fun K hK=>?_;have vH:∀(E1:Env),E1 0=.v (.string ⟨(Mac.key key).toArray⟩)→E1 1=.v (.string ⟨l.toArray⟩)→K E1 s:=by
  intro E1 e0 e1;refine hK _ _ ?_;clear hK K;have qY:=Mac.Ma key;have y8:Sha.sum (Mac.turn 54 (Mac.fill (Mac.key key))++l)=Mac.inner key l:=rfl;have Fc:Sha.sum (Mac.turn 92 (Mac.fill (Mac.key key))++Mac.inner key l)=Mac.tag key l:=rfl;have pR:=Mac.qb _ qY;have N3:=Mac.Br key l;have tl1:(Mac.turn 54 (Mac.fill (Mac.key key))).length=64:=(by rw[Mac.nz,pR]);have tl2:(Mac.turn 92 (Mac.fill (Mac.key key))).length=64:=(by rw[Mac.nz,pR]);generalize Yi:Mac.key key=kk at *
  refine jS @e0 fun K hK=>?_;refine ad (oT kk qY 92 s) ?_;rintro r s1 ⟨rfl,rfl⟩;refine jN @e0 ?_;refine ad (oT kk qY 54 s1) ?_;rintro r s2 ⟨rfl,rfl⟩;refine jN (Ai @e1 (bF (show(Mac.turn 54 (Mac.fill kk)).length+l.length<2^62 by omega))) ?_;refine ad (fV (Mac.turn 54 (Mac.fill kk)++l) (by rw[List.length_append,tl1];omega) s2) ?_;rintro r s3 ⟨rfl,rfl⟩;rw[y8];refine jN (bF (show(Mac.turn 92 (Mac.fill kk)).length+(Mac.inner key l).length<2^62 by omega)) ?_;refine ad (fV (Mac.turn 92 (Mac.fill kk)++Mac.inner key l) (by rw[List.length_append,tl2,N3];decide) s3) ?_;rintro r s4 ⟨rfl,rfl⟩;rw[Fc];refine jR hK ?_;clear hK K;exact jJ
 by_cases Fe:64<key.length
 ·have mi:Mac.key key=Sha.sum key:=(by rw[Mac.key,if_pos Fe]);rw[mi] at vH;refine jB (decide_eq_true (show(64:Int)<(key.length:Int) by omega)) ?_;refine jE ?_;refine jL (fV key (by omega) s) ?_;rintro s1 rfl;simp only[az];refine vH _ ?_ ?_
  ·simp only[aH,↓reduceIte]
  ·simp only[aH,bC,Nc,↓reduceIte,List.getD_cons_succ,List.getD_cons_zero]
 ·have mi:Mac.key key=key:=(by rw[Mac.key,if_neg Fe]);rw[mi] at vH;refine jB (decide_eq_false (show ¬(64:Int)<(key.length:Int) by omega)) ?_;refine jF ?_;refine ab ?_;simp only[az];refine vH _ ?_ ?_
  ·simp only[aH,bC,Nc,↓reduceIte,List.getD_cons_succ,List.getD_cons_zero]
  ·simp only[aH,bC,Nc,↓reduceIte,List.getD_cons_succ,List.getD_cons_zero]
def nothing:List UInt8:=[119,104,97,116,32,100,111,32,121,97,32,119,97,110,116,32,102,111,114,32,110,111,116,104,105,110,103,63]
theorem Hd(a b:List UInt8):gl [a,b]=[al a .any,al b .any]:=rfl
theorem Ff(c x y:UInt8):c ||| (x ^^^ y)=0↔c=0∧x=y:=by
 rw[UInt8.or_eq_zero_iff,UInt8.xor_eq_zero_iff]
theorem PT(a b:UInt8):FJ .u8 (a.toNat:Int) (b.toNat:Int)=(((a ||| b).toNat:Nat):Int):=by
 rw[AR (k:=.u8) rfl a.toNat b.toNat (by simpa[IntKind.bits] using a.toNat_lt) (by simpa[IntKind.bits] using b.toNat_lt),UInt8.toNat_or]
theorem JH(c:UInt8):(((c.toNat:Nat):Int)==0)=decide (c=0):=by
 rw[Bool.eq_iff_iff,beq_iff_eq,decide_eq_true_iff,←UInt8.toNat_inj];simp
theorem take_same(a b:List UInt8)(i:Nat)(ha:i<a.length)(hb:i<b.length):a.take (i+1)=b.take (i+1)↔a.take i=b.take i∧a.getD i 0=b.getD i 0:=by
 rw[List.take_succ_eq_append_getElem ha,List.take_succ_eq_append_getElem hb];have e1:(a.take i).length=(b.take i).length:=(by simp;omega);constructor
 ·intro h;have:=List.append_inj h e1;refine⟨this.1,?_⟩;simp only[List.getD_eq_getElem?_getD,List.getElem?_eq_getElem ha,List.getElem?_eq_getElem hb,Option.getD_some];simpa using this.2
 ·rintro⟨h1,h2⟩;simp only[List.getD_eq_getElem?_getD,List.getElem?_eq_getElem ha,List.getElem?_eq_getElem hb,Option.getD_some] at h2;rw[h1,h2]
theorem He(a b:List UInt8)(ha:a.length≤2^40)(s:AS):
  aj prog Γ 212 [al a .any,al b .any] s (fun r s'=>r=.v (.bool (decide (a=b)))∧s'=s):=by
 refine aa func212 rfl ntmps212 results212 (by simp) ?_;refine jA ?_;refine wK fun K hK=>?_;by_cases dK:a.length=b.length
 ·refine jB (show((a.length:Int) != (b.length:Int))=false from by rw[dK];simp) ?_;refine jF ?_;refine ab ?_;refine hK _ _ ?_;clear hK K;refine jA ?_;refine wK fun K hK=>?_;refine jA ?_;refine ah ?_;refine aD (fun E s2=>∃(i:Nat)(c:UInt8),i≤a.length∧E 0=.sl 1 a.length (a.map ai) .any∧E 1=.sl 1 b.length (b.map ai) .any∧E 5=.v (.int .u8 (c.toNat:Int))∧E 13=.v (.int .i64 a.length)∧E 14=.v (.int .i64 i)∧(c=0↔a.take i=b.take i)∧s2=s)
   (fun E _=>match E 14 with |.v (.int _ y)=>a.length-y.toNat|_=>0) ?_ ?_
  ·exact⟨0,0,by omega,by simp only[aH,bC,Nc,↓reduceIte,List.getD_cons_succ,List.getD_cons_zero,al],by simp only[aH,bC,Nc,↓reduceIte,List.getD_cons_succ,List.getD_cons_zero,al],rfl,rfl,rfl,by simp,rfl⟩
  ·rintro E2 s2 ⟨i,c,hi,g0,g1,g5,g13,g14,hc,rfl⟩ -
   by_cases aY:i<a.length
   ·have bJ:(i:Int)<(a.length:Int):=(by omega);have oZ:(i:Int)<(b.length:Int):=(by omega);have fg:(0:Int)≤(i:Int):=(by omega);have UQ:=Mn a i aY;have hgb:=Mn b i (by omega);have hts:=take_same a b i aY (by omega);generalize a.getD i 0=x at *
    generalize b.getD i 0=y at *
    have MK:=Mac.yR x y;have hor:=PT c (x ^^^ y);have hz:=Ff c x y;refine jB (Ai @g13 (Ai @g14 (decide_eq_true bJ))) ?_;refine wK fun K2 aX=>?_;refine jE ?_;refine ab ?_;refine aX _ _ ?_;clear aX K2;refine wK fun K3 br=>?_;refine ah ?_;refine jB @g14 ?_;refine fq T.mixed [] (by kernel_rfl) ?_;intro K hK;refine jV (Ai @g0 (Ai @g1 (Ai @g5 (Ai @fg (Ai @bJ (Ai @oZ (Ai @UQ (Ai @hgb (Ai @MK @hor))))))))) hK ?_;clear hK K;simp only[az,ar,if_true,if_false];refine br _ _ ?_;clear br K3;refine jD (Ai @g14 (cN i (by omega))) ?_;refine⟨⟨i+1,c ||| (x ^^^ y),by omega,g0,g1,rfl,g13,rfl,?_,rfl⟩,?_⟩
    ·rw[hz,hc,hts]
    ·simp only[g14,aH,↓reduceIte];omega
   ·have bJ:¬(i:Int)<(a.length:Int):=(by omega);obtain rfl:i=a.length:=(by omega);refine jB (Ai @g13 (Ai @g14 (decide_eq_false bJ))) ?_;refine wK fun K2 aX=>?_;refine jF ?_;refine aC ?_;simp only[az,ar,if_true];clear aX K2;refine hK _ _ ?_;clear hK K;rw[List.take_length,dK,List.take_length] at hc;have hr:(((c.toNat:Nat):Int)==0)=decide (a=b):=by
     rw[JH];exact decide_eq_decide.2 hc
    refine jB (Ai @g5 @hr) ?_;exact jJ
 ·refine jB (show((a.length:Int) != (b.length:Int))=true from by rw[bne_iff_ne];omega) ?_;refine jE ?_;refine jA ?_;refine jI ?_;exact⟨.v (.bool false),_,AV.aB.refl _,AS.le.refl _,by rw[decide_eq_false (fun e=>dK (by rw[e]))],rfl⟩
theorem zS(dO:Γ 0=ef Sha.H0)(hG:Γ 1=Sha.K.map wV)(PU l:List UInt8)(hk:PU.length≤2^38)(hl:l.length≤2^38)(s:AS):
  aj prog Γ 185 [al PU .any,al l .any] s (fun r s'=>dS s (Mac.tag PU l) r s'):=by
 refine aa func185 rfl ntmps185 results185 (by simp) ?_;refine jA ?_;refine wS fun K hK=>?_;simp only[↓DN,Qa,Qb,Qc,Qd,Qe,Qf,Qg,Qh,reduceCtorEq,↓reduceIte,Na,Nb,Nc,Nk,Nf,Ng,Nh,Za,Zb,Zc,TT,List.replicate_one];have hm:=ot (Γ:=Γ) dO hG PU [l] .new hk (by simp) (by simpa using hl) s;rw[show[l].flatten=l from by simp] at hm;refine ad hm ?_;intro r s1 bu;refine jR hK ?_;clear hK K;refine jI ?_;exact⟨_,_,AV.aB.refl _,AS.le.refl _,bu⟩
theorem _root_.Go.AM.dS.later{s s1 s2:AS}{l:List UInt8}{r:AV}(h:dS s l r s1)(hle:s1.le s2):dS s l r s2:=by
 refine⟨AS.le.trans h.1 hle,?_⟩;rcases h.2 with h|⟨t,e,h1,h2,h3⟩
 ·exact .inl h
 ·exact .inr ⟨t,e,h1,hle.own t e h2,h3⟩
def BF(l:List UInt8)(r:AV):Prop:=(l=[]∧r=.v (.slice none 0 0))∨∃t e,r=.sl 1 l.length (l.map ai) (.own t e)
theorem BF.aB{l:List UInt8}{r:AV}(h:BF l r):r.aB (al l .any):=by
 rcases h with⟨rfl,rfl⟩|⟨t,e,rfl⟩
 ·exact AV.aN
 ·exact AV.bQ
theorem BF.of{s s':AS}{l:List UInt8}{r:AV}(h:dS s l r s'):BF l r:=by
 rcases h.2 with⟨h1,h2⟩|⟨t,e,_,_,h3⟩
 ·exact .inl ⟨h1,h2⟩
 ·exact .inr ⟨t,e,h3⟩
theorem PV(c:UInt8):ec .u8 (c.toNat:Int) 1=(((c+1).toNat:Nat):Int):=by
 rw[show(1:Int)=((1:Nat):Int) from rfl,uv (k:=.u8) rfl];simp[IntKind.bits,UInt8.toNat_add]
theorem C2(dO:Γ 0=ef Sha.H0)(hG:Γ 1=Sha.K.map wV)(aQ info:List UInt8)(hk:aQ.length≤2^37)(hi:info.length≤2^37)(n:Int)(s:AS):
  aj prog Γ 146 [al aQ .any,al info .any,.v (.int .i64 n)] s (fun r s'=>r=.eo [al (Kdf.get aQ info n) .any,.v (.bool (Kdf.ok n))]∧s'=s):=by
 refine aa func146 rfl ntmps146 results146 (by simp) ?_;refine jA ?_;refine wK fun K hK=>?_;by_cases h0:n<0
 ·have iN:Kdf.ok n=false:=(by simp[Kdf.ok];omega);refine jB (decide_eq_true h0) ?_;refine jE ?_;refine jA ?_;refine jI ?_;exact⟨_,_,AV.cB AV.aN (AV.aB.refl _),AS.le.refl _,by rw[Kdf.get,iN];rfl,rfl⟩
 by_cases h1:8160<n
 ·have iN:Kdf.ok n=false:=(by simp[Kdf.ok];omega);refine jB (Ai (decide_eq_false h0) (decide_eq_true h1)) ?_;refine jE ?_;refine jA ?_;refine jI ?_;exact⟨_,_,AV.cB AV.aN (AV.aB.refl _),AS.le.refl _,by rw[Kdf.get,iN];rfl,rfl⟩
 ·have iN:Kdf.ok n=true:=(by simp[Kdf.ok];omega);obtain⟨m,rfl⟩:∃m:Nat,n=(m:Int):=⟨n.toNat,by omega⟩;have hm:m≤8160:=(by omega);have fb:Kdf.get aQ info (m:Int)=Kdf.expand aQ info m:=(by rw[Kdf.get,iN];rfl);rw[iN,fb];refine jB (Ai (decide_eq_false h0) (decide_eq_false h1)) ?_;refine jF ?_;refine ab ?_;refine hK _ _ ?_;clear hK K;refine jA ?_;refine wK fun K hK=>?_;refine jA ?_;refine ah ?_;have hmr:32*Kdf.rounds m≤8191:=(by unfold Kdf.rounds;omega);refine aD (fun E s1=>∃i:Nat,i≤Kdf.rounds m∧E 0=.sl 1 aQ.length (aQ.map ai) .any∧E 1=.sl 1 info.length (info.map ai) .any∧E 2=.v (.int .i64 m)∧E 10=.v (.int .u8 ((UInt8.ofNat (i+1)).toNat:Int))∧BF (Kdf.nE aQ info i) (E 9)∧dS s (Kdf.row aQ info i) (E 8) s1)
   (fun E _=>match E 8 with |.sl _ n _ _=>m-n|_=>m+1) ?_ ?_
  ·refine⟨0,Nat.zero_le _,by simp only[aH,bC,Nc,↓reduceIte,List.getD_cons_succ,List.getD_cons_zero,al],by simp only[aH,bC,Nc,↓reduceIte,List.getD_cons_succ,List.getD_cons_zero,al],by simp only[aH,bC,Nc,↓reduceIte,List.getD_cons_succ,List.getD_cons_zero],rfl,?_,?_⟩
   ·simp only[aH,Nc,↓reduceIte];exact .inl ⟨rfl,rfl⟩
   ·simp only[aH,Nc,↓reduceIte];exact dS.nil s
  ·rintro E2 s2 ⟨i,hir,g0,g1,g2,g10,MN,bu⟩ -
   refine wK fun K2 aX=>?_;have uF:=Kdf.cL aQ info i;have Tz:=Kdf.due m i;have YY:m-32*i≤(match E2 8 with |.sl _ n _ _=>m-n|_=>m+1):=by
    rcases bu.2 with⟨Fw,e8⟩|⟨t,e,_,_,e8⟩
    ·rw[e8];simp only;omega
    ·rw[e8];simp only[uF];exact Nat.le_refl _
   generalize Rs:E2 8=r8 at bu;generalize hr9:E2 9=r9 at MN;by_cases aY:i<Kdf.rounds m
   ·have bJ:32*i<m:=Tz.2 aY;have vH:∀E3:Env,E3 0=.sl 1 aQ.length (aQ.map ai) .any→E3 1=.sl 1 info.length (info.map ai) .any→E3 2=.v (.int .i64 m)→E3 10=.v (.int .u8 ((UInt8.ofNat (i+1)).toNat:Int))→E3 8=r8→E3 9=r9→K2 E3 s2:=by
     intro E3 f0 f1 f2 f10 f8 f9;refine aX _ _ ?_;clear aX K2;refine wK fun K3 br=>?_;refine ah ?_;have EY:=Kdf.tY aQ info i;have Po:Kdf.nE aQ info (i+1)=Mac.tag aQ (Kdf.nE aQ info i++info++[UInt8.ofNat (i+1)]):=rfl;have tp:Kdf.row aQ info (i+1)=Kdf.row aQ info i++Kdf.nE aQ info (i+1):=rfl;have xcZ:(Kdf.nE aQ info i).length≤32:=by
      cases i with
      |zero=>simp[Kdf.nE]
      |succ j=>rw[Kdf.tY];exact Nat.le_refl _
     have ZK:∀x:AV,List.replicate 3 x=[x,x,x]:=fun _=>rfl;have hw9:=MN.aB;have Fv:=PV (UInt8.ofNat (i+1));have zx:UInt8.ofNat (i+1)+1=UInt8.ofNat (i+1+1):=by
      rw[←UInt8.toNat_inj,UInt8.toNat_add,UInt8.toNat_ofNat',UInt8.toNat_ofNat'];simp
     rw[zx] at Fv;have uk:=ot (Γ:=Γ) dO hG aQ [Kdf.nE aQ info i,info,[UInt8.ofNat (i+1)]] .new (by omega) (by simp) (by simp only[List.flatten_cons,List.flatten_nil,List.append_nil,List.length_append,List.length_cons,List.length_nil];omega) s2;rw[show[Kdf.nE aQ info i,info,[UInt8.ofNat (i+1)]].flatten=Kdf.nE aQ info i++info++[UInt8.ofNat (i+1)] from by simp,←Po] at uk;have MO:∀r9':AV,r9'.aB (al (Kdf.nE aQ info i) .any)→aj prog Γ 180 [.sl 1 aQ.length (aQ.map ai) .any,.sl 1 3 [r9',.sl 1 info.length (info.map ai) .any,.sl 1 1 [.v (.int .u8 ((UInt8.ofNat (i+1)).toNat:Int))] .new] .new] s2 (fun r s'=>dS s2 (Kdf.nE aQ info (i+1)) r s'):=fun r9' hw=>
      aj.gL (fe.aB.cons (AV.aB.refl _) (fe.aB.cons (AV.sX (fe.aB.cons hw (fe.aB.cons (AV.aB.refl _) (fe.aB.cons (AV.bQ (sp:=.new)) fe.aB.nil)))) fe.aB.nil)) uk
     have MO:=MO r9 hw9;rcases MN with⟨_,rfl⟩|⟨t9,e9,rfl⟩;all_goals
      refine wS fun K hK=>?_;simp only[↓DN,Qa,Qb,Qc,Qd,Qe,Qf,Qg,Qh,reduceCtorEq,↓reduceIte,Na,Nb,Nc,Nk,Nf,Ng,Nh,Za,Zb,Zc,TT,f0,f1,f10,f9,List.replicate_one,ZK];refine ad MO ?_;intro r s3 hr;obtain⟨t3,e3,rfl⟩:=cn hr (by rw[←List.length_pos_iff,EY];decide);have ZL:=bu.later hr.1;have IA:=BF.of hr;rw[EY] at IA;refine jR hK ?_;clear hK K;refine jU (Ai @f8 @EY) fun K hK=>?_;refine dk (ds:=Kdf.nE aQ info (i+1)) ZL EY.symm rfl T.c5 T.b5 (by rw[uF,EY];omega) ?_;intro r2 s4 h4;rw[←tp] at h4;obtain⟨t4,e4,rfl⟩:=cn h4 (by rw[←List.length_pos_iff,Kdf.cL];omega);refine hK _ _ ?_;clear hK;simp only[az,ar,if_true,if_false];refine br _ _ ?_;clear br K3;refine jD (Ai @f10 @Fv) ?_;refine⟨⟨i+1,by omega,f0,f1,f2,rfl,by simpa only[aH,Nc,↓reduceIte] using IA,by simpa only[aH,Nc,↓reduceIte] using h4⟩,?_⟩;refine Nat.lt_of_lt_of_le ?_ YY;simp only[aH,Nc,↓reduceIte,Kdf.cL];omega
    rcases bu.2 with⟨Fw,rfl⟩|⟨t,e,_,_,rfl⟩
    ·have fg:32*i=0:=(by rw[←uF,Fw];rfl);refine jB (Ai @Rs (Ai @g2 (decide_eq_true (show((0:Nat):Int)<(m:Int) by omega)))) ?_;refine jE ?_;refine ab ?_;simp only[az];refine vH _ ?_ ?_ ?_ ?_ ?_ ?_
     ·simp only[aH,g0,Nc,↓reduceIte]
     ·simp only[aH,g1,Nc,↓reduceIte]
     ·simp only[aH,g2,Nc,↓reduceIte]
     ·simp only[aH,g10,Nc,↓reduceIte]
     ·simp only[aH,Rs,Nc,↓reduceIte]
     ·simp only[aH,hr9,Nc,↓reduceIte]
    ·refine jB (Ai @Rs (Ai @g2 (Ai @uF (decide_eq_true (show((32*i:Nat):Int)<(m:Int) by omega))))) ?_;refine jE ?_;refine ab ?_;simp only[az];refine vH _ ?_ ?_ ?_ ?_ ?_ ?_
     ·simp only[aH,g0,Nc,↓reduceIte]
     ·simp only[aH,g1,Nc,↓reduceIte]
     ·simp only[aH,g2,Nc,↓reduceIte]
     ·simp only[aH,g10,Nc,↓reduceIte]
     ·simp only[aH,Rs,uF,Nc,↓reduceIte]
     ·simp only[aH,hr9,Nc,↓reduceIte]
   ·obtain rfl:i=Kdf.rounds m:=(by omega);have hle:=Kdf.vd m;have hs:=bu.1;have uk:(0:Int)≤(m:Int):=(by omega);rcases bu.2 with⟨Fw,rfl⟩|⟨t,e,_,_,rfl⟩
    ·have fg:32*Kdf.rounds m=0:=(by rw[←uF,Fw];rfl);obtain rfl:m=0:=(by omega);refine jB (Ai @Rs (Ai @g2 (decide_eq_false (show ¬((0:Nat):Int)<((0:Nat):Int) by decide)))) ?_;refine jF ?_;refine aC ?_;simp only[az,ar,if_true];clear aX K2;refine hK _ _ ?_;clear hK K;refine jB (Ai @Rs (Ai @g2 (show((0:Nat):Int)=0 from rfl))) ?_;refine jI ?_;refine⟨_,s,AV.cB (AV.aN (sz:=1)) (AV.aB.refl _),hs,?_,rfl⟩;have he:Kdf.expand aQ info 0=[]:=List.eq_nil_of_length_eq_zero (Kdf.gI aQ info 0);rw[iN,fb,he];rfl
    ·refine jB (Ai @Rs (Ai @g2 (Ai @uF (decide_eq_false (show ¬((32*Kdf.rounds m:Nat):Int)<(m:Int) by omega))))) ?_;refine jF ?_;refine aC ?_;simp only[az,ar,if_true];clear aX K2;refine hK _ _ ?_;clear hK K;refine jB (Ai @Rs (Ai @g2 (Ai @uF (Ai @uk (show(m:Int)≤((32*Kdf.rounds m:Nat):Int) by omega))))) ?_;refine jI ?_;refine⟨_,s,AV.cB AV.bQ (AV.aB.refl _),hs,?_,rfl⟩;rw[iN,fb,Kdf.gI,Nat.sub_zero];rfl
theorem JI(i:Nat):cG .u8 (i:Int)=((UInt8.ofNat i).toNat:Int):=by
 rw[gE (k:=.u8) rfl,UInt8.toNat_ofNat'];simp only[IntKind.bits]
theorem PW(c:UInt8):isByte (.v (.int .u8 (c.toNat:Int)))=true:=by
 have:=gU [c];simpa[ai] using this
theorem PX(c:UInt8):mq [.v (.int .u8 (c.toNat:Int))]=⟨[c].toArray⟩:=jm [c]
theorem wO(aQ info:List UInt8)(hk:aQ.length≤2^37)(hi:info.length≤2^37)(m:Nat)(hm:m≤8160)(s:AS):
  aj prog Γ 117 [.v (.string ⟨aQ.toArray⟩),.v (.string ⟨info.toArray⟩),.v (.int .i64 m)] s (fun r s'=>r=.v (.string ⟨(Kdf.expand aQ info m).toArray⟩)∧s'=s):=by
 refine aa func117 rfl ntmps117 results117 (by simp) ?_;have hmr:32*Kdf.rounds m≤8191:=(by unfold Kdf.rounds;omega);refine jA ?_;refine jA ?_;refine wK fun K hK=>?_;refine jA ?_;refine ah ?_;refine aD (fun E s1=>∃i:Nat,i≤Kdf.rounds m∧E 0=.v (.string ⟨aQ.toArray⟩)∧E 1=.v (.string ⟨info.toArray⟩)∧E 2=.v (.int .i64 m)∧E 7=.v (.string ⟨(Kdf.nE aQ info i).toArray⟩)∧E 8=.v (.string ⟨(Kdf.row aQ info i).toArray⟩)∧E 9=.v (.int .i64 ((i+1:Nat):Int))∧s1=s)
  (fun E _=>match E 9 with |.v (.int _ x)=>300-x.toNat|_=>0) ?_ ?_
 ·exact⟨0,Nat.zero_le _,by simp only[aH,bC,Nc,↓reduceIte,List.getD_cons_succ,List.getD_cons_zero],by simp only[aH,bC,Nc,↓reduceIte,List.getD_cons_succ,List.getD_cons_zero],by simp only[aH,bC,Nc,↓reduceIte,List.getD_cons_succ,List.getD_cons_zero],rfl,rfl,rfl,rfl⟩
 ·rintro E2 s2 ⟨i,hir,g0,g1,g2,g7,g8,g9,rfl⟩ -
  refine wK fun K2 aX=>?_;have uF:=Kdf.cL aQ info i;have Tz:=Kdf.due m i;by_cases aY:i<Kdf.rounds m
  ·have bJ:32*i<m:=Tz.2 aY;have EY:=Kdf.tY aQ info i;have Po:Kdf.nE aQ info (i+1)=Mac.tag aQ (Kdf.nE aQ info i++info++[UInt8.ofNat (i+1)]):=rfl;have tp:Kdf.row aQ info (i+1)=Kdf.row aQ info i++Kdf.nE aQ info (i+1):=rfl;have xcZ:(Kdf.nE aQ info i).length≤32:=by
    cases i with
    |zero=>simp[Kdf.nE]
    |succ j=>rw[Kdf.tY];exact Nat.le_refl _
   refine jB (Ai @g2 (Ai @g8 (Ai @ej (Ai @uF (decide_eq_true (show((32*i:Nat):Int)<(m:Int) by omega)))))) ?_;refine jE ?_;refine ab ?_;refine aX _ _ ?_;clear aX K2;refine wK fun K3 br=>?_;refine ah ?_;refine wS fun K hK=>?_;simp only[↓DN,Qa,Qb,Qc,Qd,Qe,Qf,Qg,Qh,reduceCtorEq,↓reduceIte,Na,Nb,Nc,Nk,Nf,Ng,Nh,Za,Zb,Zc,TT,g0,g1,g7,g9,JI,List.replicate_one,PW,PX,bF (show(Kdf.nE aQ info i).length+info.length<2^62 by omega),bF (show(Kdf.nE aQ info i).length+info.length+1<2^62 by omega)];refine ad (C1 aQ (Kdf.nE aQ info i++(info++[UInt8.ofNat (i+1)])) (by omega) (by simp only[List.length_append,List.length_cons,List.length_nil];omega) s2) ?_;rintro r s3 ⟨rfl,rfl⟩;rw[←List.append_assoc,←Po];refine jR hK ?_;clear hK K;refine jU (Ai @g8 (bF (show(Kdf.row aQ info i).length+(Kdf.nE aQ info (i+1)).length<2^62 by omega))) fun K hK=>?_;rw[←tp];refine hK _ _ ?_;clear hK;simp only[az,ar,if_true,if_false];refine br _ _ ?_;clear br K3;refine jD (Ai @g9 (cN (i+1) (by omega))) ?_;refine⟨⟨i+1,by omega,g0,g1,g2,rfl,rfl,rfl,rfl⟩,?_⟩;simp only[g9,aH,↓reduceIte];omega
  ·obtain rfl:i=Kdf.rounds m:=(by omega);have hle:=Kdf.vd m;have uk:(0:Int)≤(m:Int):=(by omega);refine jB (Ai @g2 (Ai @g8 (Ai @ej (Ai @uF (decide_eq_false (show ¬((32*Kdf.rounds m:Nat):Int)<(m:Int) by omega)))))) ?_;refine jF ?_;refine aC ?_;simp only[az,ar,if_true];clear aX K2;refine hK _ _ ?_;clear hK K;refine jB (Ai @g2 (Ai @g8 (Ai @ej (Ai @uF (Ai @uk (show(m:Int)≤((32*Kdf.rounds m:Nat):Int) by omega)))))) ?_;exact jJ
theorem jx(dO:Γ 0=ef Sha.H0)(hG:Γ 1=Sha.K.map wV)(aQ l c:List UInt8)(n:Int)(hs:aQ.length≤2^36)(hl:l.length≤2^36)(hc:c.length≤2^36)(hn: -9223372036854775808≤n∧n≤9223372036854775807)(s:AS):
  aj prog Γ 102 [al aQ .any,.v (.string ⟨l.toArray⟩),al c .any,.v (.int .i64 n)] s (fun r s'=>r=.eo [al (Kdf.label aQ l c n) .any,.v (.bool (Kdf.fits l c n))]∧s'=s):=by
 refine aa func102 rfl ntmps102 results102 (by simp) ?_;have sm:(Kdf.Dh++l).length=4+l.length:=(by simp[Kdf.Dh];omega);refine jA ?_;refine jQ fun K hK=>?_;refine ad (qw s) ?_;rintro r s1 ⟨p,rfl,h1⟩;refine jR hK ?_;clear hK K;refine jQ fun K hK=>?_;refine ad (CH s s1 p _ n hn (by simp) h1) ?_;rintro r s2 ⟨rfl,h2⟩;have BM:=eE 2 n ([],false);generalize xc1:bm 2 n ([],false)=Uz at *
 simp only[List.length_nil] at BM;refine jR hK ?_;clear hK K;refine jS (bF (show 4+l.length<2^62 by omega)) fun K hK=>?_;refine ad (fC s s2 p Uz _ (Kdf.Dh++l) (zF.of (by rw[sm];omega) rfl) (by rw[sm];omega) h2) ?_;rintro r s3 ⟨rfl,h3⟩;have IA:=Kdf.jt 1 (Kdf.Dh++l) Uz;generalize xc2:dx 1 (Kdf.Dh++l) Uz=st3 at *
 rw[sm] at IA;refine jR hK ?_;clear hK K;refine jQ fun K hK=>?_;refine ad (Ae s s3 p st3 _ c (zF.any c) (by omega) h3) ?_;rintro r s4 ⟨rfl,h4⟩;have hl4:=Kdf.jt 2 c st3;have L4:dx 2 c st3=Kdf.Uq l c n:=(by rw[Kdf.Uq,xc1,xc2]);rw[L4] at h4 hl4;refine jR hK ?_;clear hK K;refine jQ fun K hK=>?_;refine ad (iC s s4 p _ (by omega) h4) ?_;rintro r s5 ⟨rfl,rfl⟩;by_cases eO:0≤n∧n≤65535∧l.length≤251∧c.length≤65535
 ·obtain⟨q0,q1,q2,q3⟩:=eO;have hp:=Kdf.Mu l c n q0 q1 q2 q3;have hf:Kdf.fits l c n=Kdf.ok n:=by
   simp only[Kdf.fits,Kdf.ok,decide_eq_true q2,decide_eq_true q3,Bool.true_and]
  have zk:Kdf.label aQ l c n=Kdf.get aQ (Kdf.text l c n.toNat) n:=by
   rw[Kdf.label,Kdf.get,hf]
  have me:(Kdf.text l c n.toNat).length≤2^37:=by
   rw[hp] at hl4;simp only at hl4;omega
  rw[hp];refine jV @Bool.false_eq_true hK ?_;clear hK K;refine wK fun K hK=>?_;refine jA ?_;refine jF ?_;refine ab ?_;refine hK _ _ ?_;clear hK K;refine jK (C2 dO hG aQ (Kdf.text l c n.toNat) (by omega) me n s5) ?_;rintro s6 rfl;refine jI ?_;rw[zk,hf];exact⟨_,s,AV.aB.refl _,h4.le,rfl,rfl⟩
 ·have hp:=Kdf.PE l c n eO;have hf:Kdf.fits l c n=false:=by
   cases hf:Kdf.fits l c n with
   |false=>rfl
   |true=>
    simp only[Kdf.fits,Bool.and_eq_true,decide_eq_true_eq] at hf;exact absurd ⟨hf.1.2,by omega,hf.1.1.1,hf.1.1.2⟩ eO
  have zk:Kdf.label aQ l c n=[]:=(by rw[Kdf.label,hf];rfl);rw[hp,if_pos rfl];refine jR hK ?_;clear hK K;refine wK fun K hK=>?_;refine jA ?_;refine jE ?_;refine jA ?_;refine jI ?_;rw[zk,hf];exact⟨_,s,AV.cB AV.aN (AV.aB.refl _),h4.le,rfl,rfl⟩
theorem zl(aQ l c:List UInt8)(n:Int)(hs:aQ.length≤2^36)(hf:Kdf.fits l c n=true)(s:AS):
  aj prog Γ 57 [.v (.string ⟨aQ.toArray⟩),.v (.string ⟨l.toArray⟩),.v (.string ⟨c.toArray⟩),.v (.int .i64 n)] s (fun r s'=>r=.v (.string ⟨(Kdf.label aQ l c n).toArray⟩)∧s'=s):=by
 refine aa func57 rfl ntmps57 results57 (by simp) ?_;have zk:Kdf.label aQ l c n=Kdf.expand aQ (Kdf.text l c n.toNat) n.toNat:=(by rw[Kdf.label,hf];rfl);simp only[Kdf.fits,Bool.and_eq_true,decide_eq_true_eq] at hf;obtain⟨⟨⟨q1,q2⟩,q3⟩,q4⟩:=hf;obtain⟨m,rfl⟩:∃m:Nat,n=(m:Int):=⟨n.toNat,by omega⟩;rw[zk,Int.toNat_natCast];have hu:cG .u64 (m:Int)=(m:Int):=sT (by omega);have sm:(Kdf.Dh++l).length=4+l.length:=(by simp[Kdf.Dh];omega);have EY:∀k n,(be k n).length=k:=cC;refine jA ?_;refine jS @hu fun K hK=>?_;refine ad (cT m 2 (by omega) (by omega) s) ?_;rintro r s1 ⟨rfl,rfl⟩;refine jN (bF (show 4+l.length<2^62 by omega)) ?_;refine ad (eZ (Kdf.Dh++l) 1 (by rw[sm];omega) (by omega) s1) ?_;rintro r s2 ⟨rfl,rfl⟩;have hm4:Kdf.Dh.length=4:=rfl;refine jN (Ai @hm4 (Ai @cC (bF (show 2+(1+(4+l.length))<2^62 by omega)))) ?_;refine ad (eZ c 2 (by omega) (by omega) s2) ?_;rintro r s3 ⟨rfl,rfl⟩;refine jN (Ai @hm4 (Ai @cC (bF (show 2+(1+(4+l.length))+(2+c.length)<2^62 by omega)))) ?_;have Uj:be 2 m++(be 1 (4+l.length)++(Kdf.Dh++(l++(be 2 c.length++c))))=Kdf.text l c m:=by
  simp only[Kdf.text,sm,List.append_assoc]
 have me:(Kdf.text l c m).length≤2^37:=by
  rw[←Uj];simp only[List.length_append,cC,hm4];omega
 rw[Uj];refine ad (wO aQ (Kdf.text l c m) (by omega) me m (by omega) s3) ?_;rintro r s4 ⟨rfl,rfl⟩;refine jR hK ?_;clear hK K;exact jJ
theorem TA(n:Nat):(if(251:Int)<(n:Int) then(251:Int) else(n:Int))=((min n 251:Nat):Int):=by
 split <;>omega
theorem MP(l:List UInt8):l.take (min l.length 251)=l.take 251:=by
 rcases Nat.le_total l.length 251 with h|h
 ·rw[Nat.min_eq_left h,List.take_length,List.take_of_length_le h]
 ·rw[Nat.min_eq_right h]
theorem Ek(l:List UInt8):Kdf.fits (l.take 251) [] 32=true:=by
 simp only[Kdf.fits,Bool.and_eq_true,decide_eq_true_eq,List.length_take,List.length_nil];refine⟨⟨⟨by omega,by decide⟩,by decide⟩,by decide⟩
theorem kW(dO:Γ 0=ef Sha.H0)(hG:Γ 1=Sha.K.map wV)(aQ l:List UInt8)(hs:aQ.length≤2^36)(hl:l.length≤2^36)(s:AS):
  aj prog Γ 42 [al aQ .any,.v (.string ⟨l.toArray⟩)] s (fun r s'=>r=al (Kdf.derive aQ l) .any∧s'=s):=by
 refine aa func42 rfl ntmps42 results42 (by simp) ?_;have hm:=TA l.length;have uk:(0:Int)≤((min l.length 251:Nat):Int):=(by omega);have sm:((min l.length 251:Nat):Int)≤(l.length:Int):=(by omega);refine jA ?_;refine jS (Ai @ej (Ai @hm (Ai @uk (Ai @sm @MP)))) fun K hK=>?_;have zk:=jx (Γ:=Γ) dO hG aQ (l.take 251) [] 32 hs (by rw[List.length_take];omega) (by simp) (by decide) s;refine ad (aj.gL (fe.aB.cons (AV.aB.refl _) (fe.aB.cons (AV.aB.refl _) (fe.aB.cons AV.aN (fe.aB.cons (AV.aB.refl _) fe.aB.nil)))) zk) ?_;rintro r s1 ⟨rfl,rfl⟩;refine jR hK ?_;clear hK K;refine jA ?_;exact jJ
abbrev bV(x:UInt8):AV:=.v (.int .u8 (x.toNat:Int))
theorem Ip(x:UInt8):x.toNat<2^IntKind.u8.bits:=by simpa[IntKind.bits] using x.toNat_lt
theorem oU(a b:UInt8):Dm .u8 (a.toNat:Int) (b.toNat:Int)=(((a ^^^ b).toNat:Nat):Int):=by
 rw[FZ (k:=.u8) rfl a.toNat b.toNat (Ip a) (Ip b),UInt8.toNat_xor]
theorem MQ(a b:UInt8):mg .u8 (a.toNat:Int) (b.toNat:Int)=(((a &&& b).toNat:Nat):Int):=by
 rw[rB (k:=.u8) rfl a.toNat b.toNat (Ip a) (Ip b),UInt8.toNat_and]
theorem PY(b:UInt8):mg .u8 27 (b.toNat:Int)=((((27:UInt8) &&& b).toNat:Nat):Int):=MQ 27 b
theorem TB(b:UInt8):mg .u8 (b.toNat:Int) 1=(((b &&& (1:UInt8)).toNat:Nat):Int):=MQ b 1
theorem PZ(b:UInt8):Dm .u8 99 (b.toNat:Int)=((((99:UInt8) ^^^ b).toNat:Nat):Int):=oU 99 b
theorem Rt(a:UInt8):Dn .u8 (a.toNat:Int)=((((0:UInt8)-a).toNat:Nat):Int):=by
 have:=a.toNat_lt;rw[Dn,kt rfl,UInt8.toNat_sub];simp only[IntKind.bits];rw[show(0:UInt8).toNat=0 from rfl];omega
theorem TC(a:UInt8):kj .u8 (a.toNat:Int) 1=(((a <<< (1:UInt8)).toNat:Nat):Int):=by
 have:=rC (k:=.u8) rfl a.toNat 1;rw[show(1:Int)=((1:Nat):Int) from rfl,this,UInt8.toNat_shiftLeft];simp[IntKind.bits,Nat.shiftLeft_eq]
theorem TD(a:UInt8):eJ .u8 (a.toNat:Int) 1=(((a >>> (1:UInt8)).toNat:Nat):Int):=by
 have:=hJ (k:=.u8) a.toNat 1;rw[show(1:Int)=((1:Nat):Int) from rfl,this,UInt8.toNat_shiftRight];simp[IntKind.bits,Nat.shiftRight_eq_div_pow]
theorem TE(a:UInt8):eJ .u8 (a.toNat:Int) 7=(((a >>> (7:UInt8)).toNat:Nat):Int):=by
 have:=hJ (k:=.u8) a.toNat 7;rw[show(7:Int)=((7:Nat):Int) from rfl,this,UInt8.toNat_shiftRight];simp[IntKind.bits,Nat.shiftRight_eq_div_pow]
theorem BG(b:UInt8):(b >>> (1:UInt8)).toNat=b.toNat/2:=by
 rw[UInt8.toNat_shiftRight];simp[Nat.shiftRight_eq_div_pow]
theorem lk(a:UInt8)(s:AS):aj prog Γ 252 [bV a] s (fun r s'=>r=bV (Aes.NK a)∧s'=s):=by
 refine aa func252 rfl ntmps252 results252 (by simp) ?_;refine jA ?_;refine jB (Ai @TC (Ai @TE (Ai @Rt (Ai @PY @oU)))) ?_;exact jJ
theorem ue(x y:UInt8)(s:AS):aj prog Γ 257 [bV x,bV y] s (fun r s'=>r=bV (Aes.gm 8 0 x y)∧s'=s):=by
 refine aa func257 rfl ntmps257 results257 (by simp) ?_;refine jA ?_;refine jA ?_;refine wK fun K hK=>?_;refine ah ?_;refine aD (fun E s1=>∃(f:Nat)(o a b:UInt8),E 5=bV o∧E 0=bV a∧E 1=bV b∧b.toNat<2^f∧Aes.gm f o a b=Aes.gm 8 0 x y∧s1=s)
  (fun E _=>match E 1 with |.v (.int _ i)=>i.toNat|_=>0) ?_ ?_
 ·exact⟨8,0,x,y,by simp[aH],by simp[aH,bC],by simp[aH,bC],y.toNat_lt,rfl,rfl⟩
 ·rintro E1 s1 ⟨f,o,a,b,h5,h0,h1,hb,hinv,rfl⟩ -
  refine wK fun K2 aX=>?_;by_cases YU:b.toNat=0
  ·refine jB (Ai @h1 (decide_eq_false (show ¬(0:Int)<(b.toNat:Int) by omega))) ?_;refine jF ?_;refine aC ?_;simp only[az,ar,if_true];refine hK _ _ ?_;clear hK aX K K2;refine jB @h5 ?_;refine jI ?_;refine jW ⟨?_,rfl⟩;have e:b=0:=UInt8.toNat_inj.1 (by rw[YU];rfl);rw[←hinv,e,Aes.Ig]
  ·refine jB (Ai @h1 (decide_eq_true (show(0:Int)<(b.toNat:Int) by omega))) ?_;refine jE ?_;refine ab ?_;refine aX _ _ ?_;clear aX K2;refine wK fun K3 br=>?_;refine ah ?_;refine jB (Ai @h5 (Ai @h0 (Ai @h1 (Ai @TB (Ai @Rt (Ai @MQ @oU)))))) ?_;refine jU @h0 fun K hK=>?_;refine ad (lk a _) ?_;rintro r s' ⟨rfl,rfl⟩;refine jR hK ?_;clear hK K;simp only[ar,az,if_true,if_false];refine br _ _ ?_;clear br K3;obtain⟨g,rfl⟩:∃g,f=g+1:=⟨f-1,by
    cases f with
    |zero=>simp at hb;omega
    |succ f=>simp⟩
   refine jD (Ai @h1 @TD) ?_;refine⟨⟨g,o ^^^ (a &&& ((0:UInt8)-(b &&& 1))),Aes.NK a,b >>> 1,rfl,rfl,rfl,?_,hinv,rfl⟩,?_⟩
   ·rw[BG];rw[Nat.pow_succ] at hb;omega
   ·simp only[h1,aH,↓reduceIte,BG];omega
theorem MR:∀n:Nat,n<256→mg .i64 (n:Int) 1=((n%2:Nat):Int):=by decide+kernel
theorem TF(n:Nat):eJ .i64 (n:Int) 1=((n/2:Nat):Int):=by
 have:=hJ (k:=.i64) n 1;rw[show(1:Int)=((1:Nat):Int) from rfl,this];simp[IntKind.bits]
theorem P0:(((1:Nat):Int)==1)=true:=rfl
theorem JJ:(((0:Nat):Int)==1)=false:=rfl
theorem Ay(x:UInt8)(s:AS):aj prog Γ 255 [bV x] s (fun r s'=>r=bV (Aes.inv x)∧s'=s):=by
 refine aa func255 rfl ntmps255 results255 (by simp) ?_;refine jA ?_;refine jA ?_;refine wK fun K hK=>?_;refine jA ?_;refine ah ?_;refine aD (fun E s1=>∃(f:Nat)(o a:UInt8)(n:Nat),E 3=bV o∧E 0=bV a∧E 4=.v (.int .i64 n)∧n<2^f∧n<256∧Aes.pw f o a n=Aes.pw 8 1 x 254∧s1=s)
  (fun E _=>match E 4 with |.v (.int _ i)=>i.toNat|_=>0) ?_ ?_
 ·exact⟨8,1,x,254,rfl,by simp only[aH,bC,Nc,↓reduceIte];rfl,rfl,by decide,by decide,rfl,rfl⟩
 ·rintro E1 s1 ⟨f,o,a,n,h3,h0,h4,hn,YJ,hinv,rfl⟩ -
  refine wK fun K2 aX=>?_;by_cases hn0:n=0
  ·refine jB (Ai @h4 (decide_eq_false (show ¬(0:Int)<(n:Int) by omega))) ?_;refine jF ?_;refine aC ?_;simp only[az,ar,if_true];refine hK _ _ ?_;clear hK aX K K2;refine jB @h3 ?_;refine jI ?_;refine jW ⟨?_,rfl⟩;rw[Aes.inv,←hinv,hn0,Aes.Ih]
  ·refine jB (Ai @h4 (decide_eq_true (show(0:Int)<(n:Int) by omega))) ?_;refine jE ?_;refine ab ?_;refine aX _ _ ?_;clear aX K2;refine wK fun K3 br=>?_;refine ah ?_;refine wK fun K4 eb=>?_;obtain⟨g,rfl⟩:∃g,f=g+1:=⟨f-1,by
    cases f with
    |zero=>simp at hn;omega
    |succ f=>simp⟩
   have dN:Aes.pw (g+1) o a n=Aes.pw g (if n%2=1 then Aes.gm 8 0 o a else o) (Aes.gm 8 0 a a) (n/2):=rfl;have vH:∀(E2:Env)(o2:UInt8),E2 3=bV o2→E2 0=bV a→E2 4=.v (.int .i64 n)→Aes.pw g o2 (Aes.gm 8 0 a a) (n/2)=Aes.pw 8 1 x 254→K4 E2 s1:=by
    intro E2 o2 e3 e0 e4 zm;refine eb _ _ ?_;clear eb K4;refine jU @e0 fun K hK=>?_;refine ad (ue a a s1) ?_;rintro r s' ⟨rfl,rfl⟩;refine jR hK ?_;clear hK K;simp only[ar,az,if_true,if_false];refine br _ _ ?_;clear br K3;refine jD (Ai @e4 @TF) ?_;refine⟨⟨g,o2,Aes.gm 8 0 a a,n/2,e3,rfl,rfl,by rw[Nat.pow_succ] at hn;omega,by omega,zm,rfl⟩,?_⟩;simp only[h4,aH,↓reduceIte];omega
   by_cases yi:n%2=1
   ·refine jB (Ai @h4 (Ai (MR n YJ) (Ai @yi @P0))) ?_;refine jE ?_;refine jU (Ai @h3 @h0) fun K hK=>?_;refine ad (ue o a s1) ?_;rintro r s' ⟨rfl,rfl⟩;refine jR hK ?_;clear hK K;refine vH _ (Aes.gm 8 0 o a) rfl h0 h4 ?_;rw[←hinv,dN,if_pos yi]
   ·have zn:n%2=0:=(by omega);refine jB (Ai @h4 (Ai (MR n YJ) (Ai @zn @JJ))) ?_;refine jF ?_;refine ab ?_;refine vH _ o h3 h0 h4 ?_;rw[←hinv,dN,if_neg yi]
theorem Hf:∀k:Nat,k<8→mg .u64 (cG .u64 (k:Int)) 7=((k:Nat):Int):=by decide+kernel
theorem MS:∀k:Nat,k<8→di .u64 8 ((k:Nat):Int)=((8-k:Nat):Int):=by decide+kernel
theorem MT(x:UInt8)(k:Nat)(h0:0<k)(h:k<8):FJ .u8 (kj .u8 (x.toNat:Int) ((k:Nat):Int)) (eJ .u8 (x.toNat:Int) ((8-k:Nat):Int))=(((Aes.Zn x k).toNat:Nat):Int):=by
 have hx:=x.toNat_lt;have hd:x.toNat/2^(8-k)<256:=Nat.lt_of_le_of_lt (Nat.div_le_self _ _) hx;rw[rC rfl,hJ];simp only[IntKind.bits];rw[Nat.min_eq_left (by omega),Nat.min_eq_left (by omega)];have e:=AR (k:=.u8) rfl (x.toNat*2^k%2^8) (x.toNat/2^(8-k)) (Nat.mod_lt _ (by decide)) hd;rw[e];rw[Aes.Zn,UInt8.toNat_or,UInt8.toNat_ofNat',UInt8.toNat_ofNat',Nat.mod_eq_of_lt hd]
theorem Fg(x:UInt8)(k:Nat)(h0:0<k)(h:k<8)(s:AS):
  aj prog Γ 256 [bV x,.v (.int .i64 (k:Int))] s (fun r s'=>r=bV (Aes.Zn x k)∧s'=s):=by
 refine aa func256 rfl ntmps256 results256 (by simp) ?_;refine jA ?_;refine jB (Hf k h) ?_;refine jB (Ai @mK (Ai (MS k h) (MT x k h0 h))) ?_;refine jI ?_;exact⟨_,s,AV.aB.refl _,AS.le.refl s,rfl,rfl⟩
theorem C3(x:UInt8)(s:AS):aj prog Γ 251 [bV x] s (fun r s'=>r=bV (Aes.box x)∧s'=s):=by
 refine aa func251 rfl ntmps251 results251 (by simp) ?_;have xc5:Aes.box x=Aes.G9 (Aes.inv x) 4:=rfl;have hi:=fun s=>Ay (Γ:=Γ) x s;rw[xc5];generalize Aes.inv x=y at *
 refine jA ?_;refine jK (hi _) ?_;rintro s1 rfl;refine jB @PZ ?_;refine wK fun K hK=>?_;refine jA ?_;refine ah ?_;refine aD (fun E s2=>∃i:Nat,i≤4∧E 3=bV y∧E 4=bV (Aes.G9 y i)∧E 5=.v (.int .i64 ((i+1:Nat):Int))∧s2=s1)
  (fun E _=>match E 5 with |.v (.int _ i)=>5-i.toNat|_=>0) ?_ ?_
 ·exact⟨0,by omega,rfl,rfl,rfl,rfl⟩
 ·rintro E1 s2 ⟨i,aY,h3,h4,h5,rfl⟩ -
  refine wK fun K2 aX=>?_;by_cases hn:i<4
  ·refine jB (Ai @h5 (decide_eq_true (show((i+1:Nat):Int)<5 by omega))) ?_;refine jE ?_;refine ab ?_;refine aX _ _ ?_;clear aX K2;refine wK fun K3 br=>?_;refine ah ?_;have H7:Aes.G9 y (i+1)=Aes.G9 y i ^^^ Aes.Zn y (i+1):=rfl;generalize Aes.G9 y i=o at *
   refine jU (Ai @h3 (Ai @h4 @h5)) fun K hK=>?_;refine ad (Fg y (i+1) (by omega) (by omega) _) ?_;rintro r s3 ⟨rfl,rfl⟩;refine jV (Ai @h3 (Ai @h4 (Ai @h5 @oU))) hK ?_;clear hK K;simp only[ar,az,if_true,if_false];refine br _ _ ?_;clear br K3;refine jD (Ai @h5 (cN (i+1) (by omega))) ?_;refine⟨⟨i+1,by omega,h3,by simp only[aH,Nc,↓reduceIte,H7],rfl,rfl⟩,?_⟩;simp only[h5,aH,↓reduceIte];omega
  ·obtain rfl:i=4:=(by omega);refine jB (Ai @h5 (decide_eq_false (show ¬((4+1:Nat):Int)<5 by decide))) ?_;refine jF ?_;refine aC ?_;simp only[az,ar,if_true];refine hK _ _ ?_;clear hK aX K K2;refine jB @h4 ?_;exact jJ
def bg(F G:Nat→UInt8)(N i:Nat):List AV:=(List.range N).map fun n=>ai (if n<i then F n else G n)
theorem dq(F G:Nat→UInt8)(N i:Nat):(bg F G N i).length=N:=by simp[bg]
theorem dW(F G:Nat→UInt8)(N i:Nat)(x:UInt8)(hx:x=F i):(bg F G N i).set i (bV x)=bg F G N (i+1):=by
 subst hx;apply List.ext_getElem?;intro k;by_cases e:k=i
 ·subst e;by_cases hk:k<N
  ·rw[List.getElem?_set_self (by rw[dq];exact hk)];simp[bg,hk,ai]
  ·rw[List.getElem?_eq_none (by simp[bg];omega),List.getElem?_eq_none (by simp[bg];omega)]
 ·rw[List.getElem?_set_ne (by omega)];by_cases hk:k<N
  ·simp only[bg,List.getElem?_map,List.getElem?_range hk,Option.map_some];by_cases h2:k<i
   ·rw[if_pos h2,if_pos (by omega)]
   ·rw[if_neg h2,if_neg (by omega)]
  ·rw[List.getElem?_eq_none (by simp[bg];omega),List.getElem?_eq_none (by simp[bg];omega)]
theorem fE(F G:Nat→UInt8)(N:Nat):bg F G N N=((List.range N).map F).map ai:=by
 rw[bg,List.map_map];apply List.map_congr_left;intro n hn;rw[if_pos (List.mem_range.1 hn)];rfl
theorem sf(F G:Nat→UInt8)(N:Nat):bg F G N 0=((List.range N).map G).map ai:=by
 rw[bg,List.map_map];apply List.map_congr_left;intro n hn;rw[if_neg (by omega)];rfl
theorem iE(F:Nat→UInt8)(N:Nat):bg F (fun _=>0) N 0=List.replicate N (bV 0):=by
 rw[sf];apply List.ext_getElem
 ·simp
 ·intro k h1 h2;simp[ai]
theorem l9{l:List UInt8}{N:Nat}(h:l.length=N):(List.range N).map (fun n=>l.getD n 0)=l:=by
 apply List.ext_getElem
 ·simp[h]
 ·intro k h1 h2;simp[List.getElem?_eq_getElem h2]
theorem ou(F G:Nat→UInt8)(N i j:Nat)(hj:j<N):List.drop j (bg F G N i)=ai (if j<i then F j else G j)::List.drop (j+1) (bg F G N i):=by
 apply drop_cons;simp[bg,hj]
theorem dt{l:List UInt8}(j:Nat)(h:j<l.length):List.drop j (l.map ai)=ai (l.getD j 0)::List.drop (j+1) (l.map ai):=by
 apply drop_cons;simp[List.getElem?_eq_getElem h]
theorem ck(l:List UInt8):(l.map ai).all AV.one=true:=pB l
theorem MU(n:Nat):cG .u8 (n:Int)=(((UInt8.ofNat n).toNat:Nat):Int):=by
 have:=sJ n;simp only[ai,AV.v.injEq,Value.int.injEq,true_and] at this;exact this.symm
theorem TG:bq prog 252=some (List.replicate 256 (bV 0)):=by kernel_rfl
theorem z157:bq prog 236=some (List.replicate 16 (bV 0)):=by kernel_rfl
theorem MV:(List.range 256).map (fun n=>Aes.sb.getD n 0)=Aes.sb:=l9 Aes.r4
theorem Fh(s:AS):aj prog Γ 239 [] s (fun r s'=>r=.agg (Aes.sb.map ai)∧s'=s):=by
 refine aa func239 rfl ntmps239 results239 (by simp) ?_;refine jS @TG fun K hK=>?_;intro o0 ho0;refine hK _ _ ?_;clear hK K;refine jS @TG fun K hK=>?_;intro o1 xr;obtain⟨Q8,xc6⟩:=AS.eW xr;refine hK _ _ ?_;clear hK K;refine wK fun K hK=>?_;refine jA ?_;refine ah ?_;rw[←iE (fun n=>Aes.sb.getD n 0) 256];have uj:=dq (fun n=>Aes.sb.getD n 0) (fun _=>0) 256 0;refine aD (fun E s1=>∃i:Nat,i≤256∧E 0=.ptr o0 0∧E 1=.ptr o1 0∧E 3=.v (.int .i64 i)∧s1=(s.set o0 (bg (fun n=>Aes.sb.getD n 0) (fun _=>0) 256 0)).set o1 (bg (fun n=>Aes.sb.getD n 0) (fun _=>0) 256 i))
  (fun E _=>match E 3 with |.v (.int _ i)=>256-i.toNat|_=>0) ?_ ?_
 ·exact⟨0,by omega,rfl,rfl,rfl,rfl⟩
 ·rintro E1 s1 ⟨i,hi,e0,e1,e3,rfl⟩ -
  by_cases aY:i<256
  ·have fj:(i:Int)<256:=(by omega);have Fx:(i:Int)<((256:Nat):Int):=(by omega);have fg:(0:Int)≤(i:Int):=(by omega);refine jB (Ai @e3 (decide_eq_true fj)) ?_;refine wK fun K2 aX=>?_;refine jE ?_;refine ab ?_;refine aX _ _ ?_;clear aX K2;refine wK fun K3 br=>?_;refine ah ?_;refine jB @e3 ?_;have cr:=dW (fun n=>Aes.sb.getD n 0) (fun _=>0) 256 i (Aes.box (UInt8.ofNat i)) (Aes.Tg i aY);have hlen:=dq (fun n=>Aes.sb.getD n 0) (fun _=>0) 256 i;generalize bg (fun n=>Aes.sb.getD n 0) (fun _=>0) 256 i=R at *
   generalize Hg:bg (fun n=>Aes.sb.getD n 0) (fun _=>0) 256 (i+1)=R' at *
   refine jU (Ai @e1 @MU) fun K hK=>?_;refine ad (C3 (UInt8.ofNat i) _) ?_;rintro r s2 ⟨rfl,rfl⟩;refine jN (Ai @e1 (Ai @fg (Ai @fj (Ai @Fx (Ai @cr @hlen))))) ?_;refine⟨by omega,hK _ _ ?_⟩;clear hK K;simp only[ar,az,if_true,if_false];refine br _ _ ?_;clear br K3;refine jD (Ai @e3 (cN i (by omega))) ?_;refine⟨⟨i+1,by omega,e0,e1,rfl,by rw[Hg]⟩,?_⟩;simp only[e3,aH,↓reduceIte];omega
  ·have fj:¬(i:Int)<256:=(by omega);obtain rfl:i=256:=(by omega);refine jB (Ai @e3 (decide_eq_false fj)) ?_;refine wK fun K2 aX=>?_;refine jF ?_;refine aC ?_;simp only[az,ar,if_true];clear aX K2;refine hK _ _ ?_;clear hK K;rw[fE,MV];have wx:(Aes.sb.map ai).length=256:=(by rw[List.length_map,Aes.r4]);have bT:=ck Aes.sb;have dM:List.take 256 (Aes.sb.map ai)=Aes.sb.map ai:=List.take_of_length_le (by omega);generalize Aes.sb.map ai=X at *
   generalize bg (fun n=>Aes.sb.getD n 0) (fun _=>0) 256 0=R0 at *
   refine jS (Ai @e0 (Ai @e1 (Ai @wx (Ai @dM (Ai @bT (Ai @Q8 @Q8.symm)))))) fun K hK=>?_;rw[bB R0 X (by omega)];refine⟨by omega,hK _ _ ?_⟩;clear hK K;refine a8 ?_;refine eF (v:=.agg X) (o:=o0) (off:=0) e0 (AS.ae _ _ _) (by rw[T.Sl];decide) (by simp only[↓DN,Qa,Qb,Qc,Qd,Qe,Qf,Qg,Qh,reduceCtorEq,↓reduceIte,Na,Nb,Nc,Nk,Nf,Ng,Nh,Za,Zb,Zc,TT,wx,dM]) ?_;exact⟨_,s,AV.aB.refl _,AS.aE (AS.aE (AS.aE (AS.le.refl s) ho0 _) xc6 _) ho0 _,rfl,rfl⟩
theorem P1(a:Nat):iG (a:Int) 4=((a%4:Nat):Int):=lH a 4
theorem add_const(a c:Nat)(h:a<1000)(hc:c<1000):ec .i64 (a:Int) ((c:Nat):Int)=((a+c:Nat):Int):=by
 rw[eL (by omega)];rfl
theorem MW(a:Nat)(h:a<1000):ec .i64 (a:Int) 1=((a+1:Nat):Int):=add_const a 1 h (by omega)
theorem TH(a:Nat)(h:a<1000):ec .i64 (a:Int) 2=((a+2:Nat):Int):=add_const a 2 h (by omega)
theorem TI(a:Nat)(h:a<1000):ec .i64 (a:Int) 3=((a+3:Nat):Int):=add_const a 3 h (by omega)
theorem lu{s:AS}{o p q:Nat}{x y:List AV}(h:(if q=p then some x else if q=o then some y else s.aw q)=none):q≠p∧q≠o∧s.aw q=none:=by
 by_cases h1:q=p
 ·rw[if_pos h1] at h;cases h
 ·rw[if_neg h1] at h;by_cases h2:q=o
  ·rw[if_pos h2] at h;cases h
  ·rw[if_neg h2] at h;exact⟨h1,h2,h⟩
theorem uf(b k:List UInt8)(hb:b.length=16)(hk:k.length=16)(s:AS):
  aj prog Γ 241 [.agg (b.map ai),.agg (k.map ai)] s (fun r s'=>r=.agg ((Aes.add b k).map ai)∧s'=s):=by
 refine aa func241 rfl ntmps241 results241 (by simp) ?_
 have hF:(List.range 16).map (fun n=>b.getD n 0 ^^^ k.getD n 0)=Aes.add b k:=rfl
 have hR0:bg (fun n=>b.getD n 0 ^^^ k.getD n 0) (fun n=>b.getD n 0) 16 0=b.map ai:=by rw[sf,l9 hb]
 have qY:(k.map ai).length=16:=by rw[List.length_map,hk]
 refine wS fun K hK=>?_
 simp only[↓DN,Qa,Qb,Qc,Qd,Qe,Qf,Qg,Qh,reduceCtorEq,↓reduceIte,Na,Nb,Nc,Nk,Nf,Ng,Nh,Za,Zb,Zc,TT,z157]
 intro o2 qG o3 An
 obtain⟨tc,Ao⟩:=AS.eW An
 intro o4 CP
 obtain⟨P2,Jx,u6⟩:=lu CP
 rw[show([AV.v (.int .u8 0),AV.v (.int .u8 0),AV.v (.int .u8 0),AV.v (.int .u8 0),AV.v (.int .u8 0),AV.v (.int .u8 0),AV.v (.int .u8 0),AV.v (.int .u8 0),AV.v (.int .u8 0),AV.v (.int .u8 0),AV.v (.int .u8 0),AV.v (.int .u8 0),AV.v (.int .u8 0),AV.v (.int .u8 0),AV.v (.int .u8 0),AV.v (.int .u8 0)]:List AV)=List.replicate 16 (bV 0) from rfl]
 refine hK _ _ ?_;clear hK K
 rw[←hR0]
 have j2:(((s.set o2 (bg (fun n=>b.getD n 0 ^^^ k.getD n 0) (fun n=>b.getD n 0) 16 0)).set o3 (k.map ai)).set o4 (List.replicate 16 (bV 0))).aw o2=some (bg (fun n=>b.getD n 0 ^^^ k.getD n 0) (fun n=>b.getD n 0) 16 0):=by
  rw[AS.ao _ Jx.symm,AS.ao _ tc.symm,AS.ae]
 have j3:(((s.set o2 (bg (fun n=>b.getD n 0 ^^^ k.getD n 0) (fun n=>b.getD n 0) 16 0)).set o3 (k.map ai)).set o4 (List.replicate 16 (bV 0))).aw o3=some (k.map ai):=by
  rw[AS.ao _ P2.symm,AS.ae]
 have j4:(((s.set o2 (bg (fun n=>b.getD n 0 ^^^ k.getD n 0) (fun n=>b.getD n 0) 16 0)).set o3 (k.map ai)).set o4 (List.replicate 16 (bV 0))).aw o4=some (List.replicate 16 (bV 0)):=AS.ae _ _ _
 have hle:s.le (((s.set o2 (bg (fun n=>b.getD n 0 ^^^ k.getD n 0) (fun n=>b.getD n 0) 16 0)).set o3 (k.map ai)).set o4 (List.replicate 16 (bV 0))):=AS.aE (AS.aE (AS.aE (AS.le.refl s) qG _) Ao _) u6 _
 generalize (((s.set o2 (bg (fun n=>b.getD n 0 ^^^ k.getD n 0) (fun n=>b.getD n 0) 16 0)).set o3 (k.map ai)).set o4 (List.replicate 16 (bV 0)))=s0 at *
 clear An CP hR0
 have sA:(List.replicate 16 (bV 0)).length=16:=by simp
 generalize List.replicate 16 (bV 0)=Z at *
 refine wK fun K hK=>?_
 refine wS fun K hK=>?_
 simp only[↓DN,Qa,Qb,Qc,Qd,Qe,Qf,Qg,Qh,reduceCtorEq,↓reduceIte,Na,Nb,Nc,Nk,Nf,Ng,Nh,Za,Zb,Zc,TT]
 refine hK _ _ ?_;clear hK K
 refine ah ?_
 refine aD (fun E s1=>∃i:Nat,i≤16∧E 2=.ptr o2 0∧E 3=.ptr o3 0∧E 4=.ptr o4 0∧E 6=.v (.int .i64 i)∧s1.aw o2=some (bg (fun n=>b.getD n 0 ^^^ k.getD n 0) (fun n=>b.getD n 0) 16 i)∧s1.aw o3=some (k.map ai)∧s1.aw o4=some Z∧s.le s1)
  (fun E _=>match E 6 with |.v (.int _ i)=>16-i.toNat|_=>0) ?_ ?_
 ·exact⟨0,by omega,by simp only[aH,Nc,↓reduceIte],by simp only[aH,Nc,↓reduceIte],by simp only[aH,Nc,↓reduceIte],by simp only[aH,↓reduceIte];rfl,j2,j3,j4,hle⟩
 ·clear j2 j3 j4 hle
  rintro E1 s1 ⟨i,hi,e2,e3,e4,e6,j2,j3,j4,hle⟩ -
  by_cases aY:i<16
  ·have fj:(i:Int)<16:=by omega
   have Fx:(i:Int)<((16:Nat):Int):=by omega
   have fg:(0:Int)≤(i:Int):=by omega
   refine wS fun K hK=>?_
   simp only[↓DN,Qa,Qb,Qc,Qd,Qe,Qf,Qg,Qh,reduceCtorEq,↓reduceIte,Na,Nb,Nc,Nk,Nf,Ng,Nh,Za,Zb,Zc,TT,e6,decide_eq_true fj]
   refine hK _ _ ?_;clear hK K
   refine wK fun K2 aX=>?_
   refine wC fun X Y hX hY=>?_
   simp only[UP,DF,Nc,↓reduceIte,DB]
   refine hX ?_;clear hX hY X Y
   refine ab ?_
   refine aX _ _ ?_;clear aX K2
   refine wK fun K3 br=>?_
   refine ah ?_
   refine wS fun K hK=>?_
   simp only[↓DN,Qa,Qb,Qc,Qd,Qe,Qf,Qg,Qh,reduceCtorEq,↓reduceIte,Na,Nb,Nc,Nk,Nf,Ng,Nh,Za,Zb,Zc,TT,e6]
   refine hK _ _ ?_;clear hK K
   have d2:=ou (fun n=>b.getD n 0 ^^^ k.getD n 0) (fun n=>b.getD n 0) 16 i i aY
   rw[if_neg (Nat.lt_irrefl i)] at d2
   have d3:=dt (l:=k) i (by omega)
   have cr:=dW (fun n=>b.getD n 0 ^^^ k.getD n 0) (fun n=>b.getD n 0) 16 i _ rfl
   have hlen:=dq (fun n=>b.getD n 0 ^^^ k.getD n 0) (fun n=>b.getD n 0) 16 i
   generalize Hg:bg (fun n=>b.getD n 0 ^^^ k.getD n 0) (fun n=>b.getD n 0) 16 (i+1)=R' at *
   generalize bg (fun n=>b.getD n 0 ^^^ k.getD n 0) (fun n=>b.getD n 0) 16 i=R at *
   generalize b.getD i 0=x at *
   generalize k.getD i 0=y at *
   generalize k.map ai=Y at *
   refine cD T.mixed [(o2,R),(o3,Y)] [] [2,5] [8] (by kernel_rfl) (by simp only[aG,aJ,and_true];simp[AS.set,aH,j2,j3]) ?_
   intro K hK
   simp only[↓bo,↓a7,da,cX,aL,aR,aG,aJ,List.any_cons,List.any_nil,List.contains_cons,List.contains_nil,Nat.reduceBEq,Bool.or_false,Bool.or_true,Bool.or_self,Bool.false_or,↓DN,Qa,Qb,Qc,Qd,Qe,Qf,Qg,Qh,reduceCtorEq,↓reduceIte,Na,Nb,Nc,Nk,Nf,Ng,Nh,Za,Zb,Zc,TT,e2,e3,e6,fg,fj,Fx,d2,d3,tc,tc.symm,j2,j3,ai,oU,cr,hlen,qY]
   refine⟨by omega,hK _ _ ?_⟩
   clear hK K
   simp only[ar,az,if_true,if_false]
   refine br _ _ ?_;clear br K3
   refine wE fun K hK=>?_
   simp only[↓DN,Qa,Qb,Qc,Qd,Qe,Qf,Qg,Qh,reduceCtorEq,↓reduceIte,Na,Nb,Nc,Nk,Nf,Ng,Nh,Za,Zb,Zc,TT,e6,cN i (by omega)]
   refine hK _ _ ?_;clear hK K
   refine⟨⟨i+1,by omega,by simp only[aH,e2,Nc,↓reduceIte],by simp only[aH,e3,Nc,↓reduceIte],by simp only[aH,e4,Nc,↓reduceIte],by simp only[aH,↓reduceIte],by rw[Hg];exact AS.ae _ _ _,by rw[AS.ao _ tc];exact j3,by rw[AS.ao _ Jx];exact j4,AS.aE hle qG _⟩,?_⟩
   simp only[e6,aH,↓reduceIte]
   omega
  ·have fj:¬(i:Int)<16:=by omega
   obtain rfl:i=16:=by omega
   refine wS fun K hK=>?_
   simp only[↓DN,Qa,Qb,Qc,Qd,Qe,Qf,Qg,Qh,reduceCtorEq,↓reduceIte,Na,Nb,Nc,Nk,Nf,Ng,Nh,Za,Zb,Zc,TT,e6,decide_eq_false fj]
   refine hK _ _ ?_;clear hK K
   refine wK fun K2 aX=>?_
   refine wC fun X Y hX hY=>?_
   simp only[UP,DF,Nc,↓reduceIte,DB]
   refine hY ?_;clear hX hY X Y
   refine aC ?_
   simp only[az,ar,if_true]
   clear aX K2
   refine hK _ _ ?_;clear hK K
   rw[fE,hF] at j2
   have wx:((Aes.add b k).map ai).length=16:=by rw[List.length_map,Aes.CY]
   have bT:=ck (Aes.add b k)
   have dM:List.take 16 ((Aes.add b k).map ai)=(Aes.add b k).map ai:=List.take_of_length_le (by omega)
   generalize (Aes.add b k).map ai=X at *
   refine wS fun K hK=>?_
   simp only[↓DN,Qa,Qb,Qc,Qd,Qe,Qf,Qg,Qh,reduceCtorEq,↓reduceIte,Na,Nb,Nc,Nk,Nf,Ng,Nh,Za,Zb,Zc,TT,e2,e4,j2,j4,wx,dM,bT,Jx,Jx.symm]
   rw[bB Z X (by omega)]
   refine⟨by omega,hK _ _ ?_⟩
   clear hK K
   refine a8 ?_
   refine eF (v:=.agg X) (o:=o4) (off:=0) (by simp only[aH,e4,Nc,↓reduceIte]) (AS.ae _ _ _) (by rw[T.KU];decide) (by simp only[↓DN,Qa,Qb,Qc,Qd,Qe,Qf,Qg,Qh,reduceCtorEq,↓reduceIte,Na,Nb,Nc,Nk,Nf,Ng,Nh,Za,Zb,Zc,TT,wx,dM]) ?_
   exact⟨_,s,AV.aB.refl _,AS.aE hle u6 _,rfl,rfl⟩
theorem xf:¬(4:Int)=0:=by decide
def wQ(c:List UInt8):List UInt8:=(List.range 4).map fun i=>Aes.mx (fun j=>c.getD j 0) i
theorem MX(c:List UInt8):(wQ c).length=4:=by simp[wQ]
theorem C4(c:List UInt8)(hc:c.length=4)(s:AS):
  aj prog Γ 253 [.agg (c.map ai)] s (fun r s'=>r=.agg ((wQ c).map ai)∧s'=s):=by
 refine aa func253 rfl ntmps253 results253 (by simp) ?_;have hF:(List.range 4).map (fun i=>Aes.mx (fun j=>c.getD j 0) i)=wQ c:=rfl;have iF:(c.map ai).length=4:=(by rw[List.length_map,hc]);have hz4:([.v (.int .u8 0),.v (.int .u8 0),.v (.int .u8 0),.v (.int .u8 0)]:List AV)=List.replicate 4 (bV 0):=rfl;refine jQ fun K hK=>?_;intro o1 xr o2 qG;obtain⟨NJ,ZM⟩:=AS.eW qG;rw[hz4];refine hK _ _ ?_;clear hK K;refine jQ fun K hK=>?_;intro o3 An;obtain⟨tc,Ru,Ao⟩:=lu An;rw[hz4];refine hK _ _ ?_;clear hK K;generalize mh:((s.set o1 (c.map ai)).set o2 (List.replicate 4 (bV 0))).set o3 (List.replicate 4 (bV 0))=s0 at *
 have j1:s0.aw o1=some (c.map ai):=(by rw[←mh,AS.ao _ Ru.symm,AS.ao _ NJ.symm,AS.ae]);have j2:s0.aw o2=some (List.replicate 4 (bV 0)):=(by rw[←mh,AS.ao _ tc.symm,AS.ae]);have j3:s0.aw o3=some (List.replicate 4 (bV 0)):=(by rw[←mh];exact AS.ae _ _ _);have hle:s.le s0:=(by rw[←mh];exact AS.aE (AS.aE (AS.aE (AS.le.refl s) xr _) ZM _) Ao _);clear mh An qG;have sA:(List.replicate 4 (bV 0)).length=4:=(by simp);rw[←iE (fun i=>Aes.mx (fun j=>c.getD j 0) i) 4] at j3;generalize List.replicate 4 (bV 0)=Z at *
 refine wK fun K hK=>?_;refine jA ?_;refine ah ?_;refine aD (fun E s1=>∃i:Nat,i≤4∧E 1=.ptr o1 0∧E 2=.ptr o2 0∧E 3=.ptr o3 0∧E 5=.v (.int .i64 i)∧s1.aw o3=some (bg (fun i=>Aes.mx (fun j=>c.getD j 0) i) (fun _=>0) 4 i)∧s1.aw o1=some (c.map ai)∧s1.aw o2=some Z∧s.le s1)
  (fun E _=>match E 5 with |.v (.int _ i)=>4-i.toNat|_=>0) ?_ ?_
 ·exact⟨0,by omega,rfl,rfl,rfl,rfl,j3,j1,j2,hle⟩
 ·clear j1 j2 j3 hle;rintro E1 s1 ⟨i,hi,e1,e2,e3,e5,j3,j1,j2,hle⟩ -
  by_cases aY:i<4
  ·have fj:(i:Int)<4:=(by omega);have Fx:(i:Int)<((4:Nat):Int):=(by omega);have fg:(0:Int)≤(i:Int):=(by omega);refine jB (Ai @e5 (decide_eq_true fj)) ?_;refine wK fun K2 aX=>?_;refine jE ?_;refine ab ?_;refine aX _ _ ?_;clear aX K2;refine wK fun K3 br=>?_;refine ah ?_;refine jB @e5 ?_;have cr:=dW (fun i=>Aes.mx (fun j=>c.getD j 0) i) (fun _=>0) 4 i _ rfl;have hlen:=dq (fun i=>Aes.mx (fun j=>c.getD j 0) i) (fun _=>0) 4 i;have Iz:Aes.mx (fun j=>c.getD j 0) i=(((Aes.NK (c.getD i 0) ^^^ Aes.NK (c.getD ((i+1)%4) 0)) ^^^ c.getD ((i+1)%4) 0) ^^^ c.getD ((i+2)%4) 0) ^^^ c.getD ((i+3)%4) 0:=rfl;rw[Iz] at cr;have d0:=dt (l:=c) i (by omega);have d1:=dt (l:=c) ((i+1)%4) (by omega);have d2:=dt (l:=c) ((i+2)%4) (by omega);have d3:=dt (l:=c) ((i+3)%4) (by omega);have k1:(0:Int)≤(((i+1)%4:Nat):Int):=(by omega);have k2:(0:Int)≤(((i+2)%4:Nat):Int):=(by omega);have k3:(0:Int)≤(((i+3)%4:Nat):Int):=(by omega);have m1:(((i+1)%4:Nat):Int)<((4:Nat):Int):=(by omega);have m2:(((i+2)%4:Nat):Int)<((4:Nat):Int):=(by omega);have m3:(((i+3)%4:Nat):Int)<((4:Nat):Int):=(by omega);clear Iz;generalize Hg:bg (fun i=>Aes.mx (fun j=>c.getD j 0) i) (fun _=>0) 4 (i+1)=R' at *
   generalize bg (fun i=>Aes.mx (fun j=>c.getD j 0) i) (fun _=>0) 4 i=R at *
   generalize c.getD i 0=x0 at *
   generalize c.getD ((i+1)%4) 0=x1 at *
   generalize c.getD ((i+2)%4) 0=x2 at *
   generalize c.getD ((i+3)%4) 0=x3 at *
   generalize c.map ai=Y at *
   have a1:=MW i (by omega);have a2:=TH i (by omega);have a3:=TI i (by omega);refine cD T.mixed [(o1,Y),(o3,R)] [4,10] [3,9,16,22,28] [31] (by kernel_rfl) (by simp only[aG,aJ,and_true];simp[AS.set,aH,j1,j3]) ?_;intro K hK;simp only[↓bo,↓a7,da,cX,aL,aR,aG,aJ,List.any_cons,List.any_nil,List.contains_cons,List.contains_nil,Nat.reduceBEq,Bool.or_false,Bool.or_true,Bool.or_self,Bool.false_or,↓DN,Qa,Qb,Qc,Qd,Qe,Qf,Qg,Qh,reduceCtorEq,↓reduceIte,Na,Nb,Nc,Nk,Nf,Ng,Nh,Za,Zb,Zc,TT,e1,e3,e5,fg,fj,Fx,k1,k2,k3,m1,m2,m3,d0,d1,d2,d3,a1,a2,a3,P1,xf,Ru,Ru.symm,j1,j3,ai,oU,cr,hlen,iF];refine ad (lk x0 _) ?_;rintro r sa ⟨rfl,rfl⟩;simp only[↓ca,↓bI,bN,↓bo,↓a7,da,cX,aL,aR,aG,aJ,List.any_cons,List.any_nil,DX,Nat.reduceBEq,↓DN,Qa,Qb,Qc,Qd,Qe,Qf,Qg,Qh,reduceCtorEq,↓reduceIte,Na,Nb,Nc,Nk,Nf,Ng,Nh,Za,Zb,Zc,TT,e1,e3,e5,fg,fj,Fx,k1,k2,k3,m1,m2,m3,d0,d1,d2,d3,a1,a2,a3,P1,xf,Ru,Ru.symm,j1,j3,ai,oU,cr,hlen,iF];refine ad (lk x1 _) ?_;rintro r sb ⟨rfl,rfl⟩;simp only[↓ca,↓bI,bN,↓bo,↓a7,da,cX,aL,aR,aG,aJ,List.any_cons,List.any_nil,DX,Nat.reduceBEq,↓DN,Qa,Qb,Qc,Qd,Qe,Qf,Qg,Qh,reduceCtorEq,↓reduceIte,Na,Nb,Nc,Nk,Nf,Ng,Nh,Za,Zb,Zc,TT,e1,e3,e5,fg,fj,Fx,k1,k2,k3,m1,m2,m3,d0,d1,d2,d3,a1,a2,a3,P1,xf,Ru,Ru.symm,j1,j3,ai,oU,cr,hlen,iF];refine⟨by omega,hK _ _ ?_⟩;clear hK K;simp only[ar,az,if_true,if_false];refine br _ _ ?_;clear br K3;refine jD (Ai @e5 (cN i (by omega))) ?_;refine⟨⟨i+1,by omega,e1,e2,e3,rfl,by rw[Hg];exact AS.ae _ _ _,by rw[AS.ao _ Ru.symm];exact j1,by rw[AS.ao _ tc.symm];exact j2,AS.aE hle Ao _⟩,?_⟩;simp only[e5,aH,↓reduceIte];omega
  ·have fj:¬(i:Int)<4:=(by omega);obtain rfl:i=4:=(by omega);refine jB (Ai @e5 (decide_eq_false fj)) ?_;refine wK fun K2 aX=>?_;refine jF ?_;refine aC ?_;simp only[az,ar,if_true];clear aX K2;refine hK _ _ ?_;clear hK K;rw[fE,hF] at j3;have wx:((wQ c).map ai).length=4:=(by rw[List.length_map,MX]);have bT:=ck (wQ c);have dM:List.take 4 ((wQ c).map ai)=(wQ c).map ai:=List.take_of_length_le (by omega);generalize (wQ c).map ai=X at *
   refine jS (Ai @e2 (Ai @e3 (Ai @j2 (Ai @j3 (Ai @wx (Ai @dM (Ai @bT (Ai @tc @tc.symm)))))))) fun K hK=>?_;rw[bB Z X (by omega)];refine⟨by omega,hK _ _ ?_⟩;clear hK K;refine a8 ?_;refine eF (v:=.agg X) (o:=o2) (off:=0) e2 (AS.ae _ _ _) (by rw[T.Sn];decide) (by simp only[↓DN,Qa,Qb,Qc,Qd,Qe,Qf,Qg,Qh,reduceCtorEq,↓reduceIte,Na,Nb,Nc,Nk,Nf,Ng,Nh,Za,Zb,Zc,TT,wx,dM]) ?_;exact⟨_,s,AV.aB.refl _,AS.aE hle ZM _,rfl,rfl⟩
theorem vY{s:AS}{o p q r:Nat}{x y z:List AV}(h:(if r=q then some z else if r=p then some y else if r=o then some x else s.aw r)=none):r≠q∧r≠p∧r≠o∧s.aw r=none:=by
 by_cases h1:r=q
 ·rw[if_pos h1] at h;cases h
 ·rw[if_neg h1] at h;obtain⟨h2,h3,h4⟩:=lu h;exact⟨h1,h2,h3,h4⟩
theorem ZN(a:Nat):iG (a:Int) 16=((a%16:Nat):Int):=lH a 16
theorem sg:¬(16:Int)=0:=by decide
def vi(b:List UInt8)(ov:Nat):List UInt8:=(List.range 4).map fun i=>Aes.sh b (4*ov+i)
def pf(b:List UInt8)(last:Bool)(n:Nat):UInt8:=(Aes.Ii b last).getD n 0
def pg(b:List UInt8)(last:Bool)(ov:Nat):List UInt8:=(List.range 4).map fun i=>pf b last (4*ov+i)
theorem JK(b:List UInt8)(ov:Nat)(h:ov<4):vi b ov=pg b true ov:=by
 unfold vi pg;apply List.map_congr_left;intro i hi;have:=List.mem_range.1 hi;rw[pf,Aes.Ij b true _ (by omega),if_pos rfl]
theorem xg(b:List UInt8)(ov i:Nat)(h:i<4):(vi b ov).getD i 0=Aes.sh b (4*ov+i):=Aes.ve _ 4 i 0 h
theorem Hh(b:List UInt8)(ov:Nat)(h:ov<4):wQ (vi b ov)=pg b false ov:=by
 unfold wQ pg;apply List.map_congr_left;intro i hi;have hi4:=List.mem_range.1 hi;rw[pf,Aes.Ij b false _ (by omega)];simp only[Bool.false_eq_true,if_false];have e1:(4*ov+i)/4=ov:=(by omega);have e2:(4*ov+i)%4=i:=(by omega);rw[e1,e2];unfold Aes.mx;simp only[xg b ov i hi4,xg b ov ((i+1)%4) (by omega),xg b ov ((i+2)%4) (by omega),xg b ov ((i+3)%4) (by omega)]
theorem ZO(b:List UInt8)(ov row:Nat)(h:row<4):Aes.S (b.getD ((4*(ov+row)+row)%16) 0)=Aes.sh b (4*ov+row):=by
 have e1:(4*ov+row)/4=ov:=(by omega);have e2:(4*ov+row)%4=row:=(by omega);have e3:(4*(ov+row)+row)%16=4*((ov+row)%4)+row:=(by omega);rw[Aes.sh,e1,e2,e3]
theorem MY(b:List UInt8)(last:Bool)(G:Nat→UInt8)(ov:Nat):bn (bg (pf b last) G 16 (4*ov)) (4*ov) ((pg b last ov).map ai)=bg (pf b last) G 16 (4*(ov+1)):=by
 have e:(pg b last ov).map ai=[bV (pf b last (4*ov)),bV (pf b last (4*ov+1)),bV (pf b last (4*ov+1+1)),bV (pf b last (4*ov+1+1+1))]:=rfl;rw[e];simp only[bn];rw[dW _ _ _ _ _ rfl,dW _ _ _ _ _ rfl,dW _ _ _ _ _ rfl,dW _ _ _ _ _ rfl];rfl
theorem Rv:([AV.v (.int .u8 0),AV.v (.int .u8 0),AV.v (.int .u8 0),AV.v (.int .u8 0),AV.v (.int .u8 0),AV.v (.int .u8 0),AV.v (.int .u8 0),AV.v (.int .u8 0),AV.v (.int .u8 0),AV.v (.int .u8 0),AV.v (.int .u8 0),AV.v (.int .u8 0),AV.v (.int .u8 0),AV.v (.int .u8 0),AV.v (.int .u8 0),AV.v (.int .u8 0)]:List AV)=List.replicate 16 (bV 0):=rfl
theorem z4:([AV.v (.int .u8 0),AV.v (.int .u8 0),AV.v (.int .u8 0),AV.v (.int .u8 0)]:List AV)=List.replicate 4 (bV 0):=rfl
theorem BH(i:Nat)(h:i<1000):gO .i64 4 (i:Int)=((4*i:Nat):Int):=by
 rw[dI (by omega)];omega
theorem zo(b:List UInt8)(hb:b.length=16)(last:Bool)(s:AS):
  aj prog Γ 242 [.agg (b.map ai),.agg (Aes.sb.map ai),.v (.bool last)] s (fun r s'=>r=.agg ((Aes.Ii b last).map ai)∧s'=s):=by
 refine aa func242 rfl ntmps242 results242 (by simp) ?_;have EY:(b.map ai).length=16:=(by rw[List.length_map,hb]);have tn:(Aes.sb.map ai).length=256:=(by rw[List.length_map,Aes.r4]);refine jQ fun K hK=>?_;intro o3 An o4 CP;obtain⟨P2,u6⟩:=AS.eW CP;intro o6 J0;obtain⟨h64,Db,ZP⟩:=lu J0;rw[Rv];refine hK _ _ ?_;clear hK K;refine jQ fun K hK=>?_;intro o7 Di;obtain⟨Sh,h74,h73,ZQ⟩:=vY Di;rw[Rv];refine hK _ _ ?_;clear hK K;generalize mh:(((s.set o3 (b.map ai)).set o4 (Aes.sb.map ai)).set o6 (List.replicate 16 (bV 0))).set o7 (List.replicate 16 (bV 0))=s0 at *
 have j3:s0.aw o3=some (b.map ai):=(by rw[←mh,AS.ao _ h73.symm,AS.ao _ Db.symm,AS.ao _ P2.symm,AS.ae]);have j4:s0.aw o4=some (Aes.sb.map ai):=(by rw[←mh,AS.ao _ h74.symm,AS.ao _ h64.symm,AS.ae]);have j6:s0.aw o6=some (List.replicate 16 (bV 0)):=(by rw[←mh,AS.ao _ Sh.symm,AS.ae]);have j7:s0.aw o7=some (List.replicate 16 (bV 0)):=(by rw[←mh];exact AS.ae _ _ _);have hle:s.le s0:=(by rw[←mh];exact AS.aE (AS.aE (AS.aE (AS.aE (AS.le.refl s) An _) u6 _) ZP _) ZQ _);clear mh CP J0 Di;have sA:(List.replicate 16 (bV 0)).length=16:=(by simp);rw[←iE (pf b last) 16] at j7;generalize List.replicate 16 (bV 0)=Z at *
 refine wK fun K hK=>?_;refine jA ?_;refine ah ?_;refine aD (fun E s1=>∃i:Nat,i≤4∧E 2=.v (.bool last)∧E 3=.ptr o3 0∧E 4=.ptr o4 0∧E 6=.ptr o6 0∧E 7=.ptr o7 0∧E 11=.v (.int .i64 i)∧s1.aw o7=some (bg (pf b last) (fun _=>0) 16 (4*i))∧s1.aw o3=some (b.map ai)∧s1.aw o4=some (Aes.sb.map ai)∧s1.aw o6=some Z∧s.le s1)
  (fun E _=>match E 11 with |.v (.int _ i)=>4-i.toNat|_=>0) ?_ ?_
 ·exact⟨0,by omega,by simp only[aH,bC,Nc,↓reduceIte];rfl,rfl,rfl,rfl,rfl,rfl,j7,j3,j4,j6,hle⟩
 ·clear j3 j4 j6 j7 hle;rintro E1 s1 ⟨i,hi,e2,e3,e4,e6,e7,wA,j7,j3,j4,j6,hle⟩ -
  by_cases aY:i<4
  ·have fj:(i:Int)<4:=(by omega);refine jB (Ai @wA (decide_eq_true fj)) ?_;refine wK fun K2 aX=>?_;refine jE ?_;refine ab ?_;refine aX _ _ ?_;clear aX K2;refine wK fun K3 br=>?_;refine ah ?_;refine jB @wA ?_;refine jQ fun K hK=>?_;intro o9 MZ;rw[z4];refine hK _ _ ?_;clear hK K;have ZR:o9≠o3:=(fun e=>by rw[e,j3] at MZ;cases MZ);have ZS:o9≠o4:=(fun e=>by rw[e,j4] at MZ;cases MZ);have n96:o9≠o6:=(fun e=>by rw[e,j6] at MZ;cases MZ);have ZT:o9≠o7:=(fun e=>by rw[e,j7] at MZ;cases MZ);have NN:s.aw o9=none:=by
    cases h:s.aw o9 with
    |none=>rfl
    |some cs=>rw[hle.aw _ _ h] at MZ;cases MZ
   generalize ng:s1.set o9 (List.replicate 4 (bV 0))=s2 at *
   have q3:s2.aw o3=some (b.map ai):=(by rw[←ng,AS.ao _ ZR.symm];exact j3);have q4:s2.aw o4=some (Aes.sb.map ai):=(by rw[←ng,AS.ao _ ZS.symm];exact j4);have q6:s2.aw o6=some Z:=(by rw[←ng,AS.ao _ n96.symm];exact j6);have q7:s2.aw o7=some (bg (pf b last) (fun _=>0) 16 (4*i)):=(by rw[←ng,AS.ao _ ZT.symm];exact j7);have q9:s2.aw o9=some (List.replicate 4 (bV 0)):=(by rw[←ng];exact AS.ae _ _ _);have ga:s.le s2:=(by rw[←ng];exact AS.aE hle NN _);clear ng j3 j4 j6 j7 MZ hle;rw[←iE (fun r=>Aes.sh b (4*i+r)) 4] at q9;refine wK fun K hK=>?_;refine jA ?_;refine ah ?_;refine aD (fun E s3=>∃r:Nat,r≤4∧E 2=.v (.bool last)∧E 3=.ptr o3 0∧E 4=.ptr o4 0∧E 6=.ptr o6 0∧E 7=.ptr o7 0∧E 8=.v (.int .i64 i)∧E 9=.ptr o9 0∧E 11=.v (.int .i64 i)∧E 14=.v (.int .i64 r)∧s3.aw o9=some (bg (fun r=>Aes.sh b (4*i+r)) (fun _=>0) 4 r)∧s3.aw o7=some (bg (pf b last) (fun _=>0) 16 (4*i))∧s3.aw o3=some (b.map ai)∧s3.aw o4=some (Aes.sb.map ai)∧s3.aw o6=some Z∧s.le s3)
    (fun E _=>match E 14 with |.v (.int _ i)=>4-i.toNat|_=>0) ?_ ?_
   ·exact⟨0,by omega,e2,e3,e4,e6,e7,rfl,rfl,wA,rfl,q9,q7,q3,q4,q6,ga⟩
   ·clear q3 q4 q6 q7 q9 ga;rintro E4 s3 ⟨r,hr,g2,g3,g4,g6,g7,g8,g9,g11,g14,q9,q7,q3,q4,q6,ga⟩ -
    by_cases BT:r<4
    ·have qS:(r:Int)<4:=(by omega);refine jB (Ai @g14 (decide_eq_true qS)) ?_;refine wK fun K6 kC=>?_;refine jE ?_;refine ab ?_;refine kC _ _ ?_;clear kC K6;refine wK fun K7 H4=>?_;refine ah ?_;refine jB @g14 ?_;have cr:=dW (fun r=>Aes.sh b (4*i+r)) (fun _=>0) 4 r _ rfl;rw[←ZO b i r BT] at cr;have hlen:=dq (fun r=>Aes.sh b (4*i+r)) (fun _=>0) 4 r;have a0:=fU i r (by omega);have a1:=BH (i+r) (by omega);have a2:=fU (4*(i+r)) r (by omega);have a3:=ZN (4*(i+r)+r);have db:=dt (l:=b) ((4*(i+r)+r)%16) (by omega);have k0:(0:Int)≤(((4*(i+r)+r)%16:Nat):Int):=(by omega);have k1:(((4*(i+r)+r)%16:Nat):Int)<((16:Nat):Int):=(by omega);generalize (4*(i+r)+r)%16=m at *
     have hm:=(b.getD m 0).toNat_lt;have ds:=dt (l:=Aes.sb) (b.getD m 0).toNat (by rw[Aes.r4];omega);rw[show Aes.sb.getD (b.getD m 0).toNat 0=Aes.S (b.getD m 0) from rfl] at ds;generalize Aes.S (b.getD m 0)=y at *
     generalize b.getD m 0=x at *
     have k2:(0:Int)≤((x.toNat:Nat):Int):=(by omega);have k3:((x.toNat:Nat):Int)<((256:Nat):Int):=(by omega);have Fw:(0:Int)≤(r:Int):=(by omega);have qR:(r:Int)<((4:Nat):Int):=(by omega);generalize Hg:bg (fun r=>Aes.sh b (4*i+r)) (fun _=>0) 4 (r+1)=R' at *
     generalize bg (fun r=>Aes.sh b (4*i+r)) (fun _=>0) 4 r=R at *
     generalize hY1:b.map ai=Y1 at *
     generalize hY2:Aes.sb.map ai=Y2 at *
     refine wE fun K hK=>?_;simp only[↓DN,Qa,Qb,Qc,Qd,Qe,Qf,Qg,Qh,reduceCtorEq,↓reduceIte,Na,Nb,Nc,Nk,Nf,Ng,Nh,Za,Zb,Zc,TT,g3,g4,g8,g9,g14,Fw,qS,qR,k0,k1,k2,k3,db,ds,a0,a1,a2,a3,sg,ZR,ZR.symm,ZS,ZS.symm,P2,P2.symm,q3,q4,q9,ai,cr,hlen,EY,tn];refine⟨by omega,hK _ _ ?_⟩;clear hK K;simp only[ar,az,if_true,if_false];refine H4 _ _ ?_;clear H4 K7;refine jD (Ai @g14 (cN r (by omega))) ?_;refine⟨⟨r+1,by omega,g2,g3,g4,g6,g7,g8,g9,g11,rfl,by rw[Hg];exact AS.ae _ _ _,by rw[AS.ao _ ZT.symm];exact q7,by rw[AS.ao _ ZR.symm,q3],by rw[AS.ao _ ZS.symm,q4],by rw[AS.ao _ n96.symm];exact q6,AS.aE ga NN _⟩,?_⟩;simp only[g14,aH,↓reduceIte];omega
    ·have qS:¬(r:Int)<4:=(by omega);obtain rfl:r=4:=(by omega);refine jB (Ai @g14 (decide_eq_false qS)) ?_;refine wK fun K6 kC=>?_;refine jF ?_;refine aC ?_;simp only[az,ar,if_true];clear kC K6;refine hK _ _ ?_;clear hK K;rw[fE,show(List.range 4).map (fun r=>Aes.sh b (4*i+r))=vi b i from rfl] at q9;refine wK fun K hK=>?_;have Rw:∀(E5:Env)(s4:AS),E5 2=.v (.bool last)→E5 3=.ptr o3 0→E5 4=.ptr o4 0→E5 6=.ptr o6 0→E5 7=.ptr o7 0→E5 8=.v (.int .i64 i)→E5 9=.ptr o9 0→E5 11=.v (.int .i64 i)→
       s4.aw o9=some ((pg b last i).map ai)→s4.aw o7=some (bg (pf b last) (fun _=>0) 16 (4*i))→s4.aw o3=some (b.map ai)→s4.aw o4=some (Aes.sb.map ai)→s4.aw o6=some Z→s.le s4→K E5 s4:=by
      intro E5 s4 f2 f3 f4 f6 f7 f8 f9 f11 t9 t7 t3 t4 t6 eM;refine hK _ _ ?_;clear hK K;have RK:=MY b last (fun _=>0) i;have iF:((pg b last i).map ai).length=4:=(by simp[pg]);have bT:=ck (pg b last i);have dM:List.take 4 ((pg b last i).map ai)=(pg b last i).map ai:=List.take_of_length_le (by omega);have pR:=dq (pf b last) (fun _=>0) 16 (4*i);generalize hC:(pg b last i).map ai=C at *
      generalize hF':bg (pf b last) (fun _=>0) 16 (4*(i+1))=F' at *
      generalize bg (pf b last) (fun _=>0) 16 (4*i)=F at *
      have a1:=BH i (by omega);have l0:(0:Int)≤((4*i:Nat):Int):=(by omega);have l1:((4*i:Nat):Int)≤((16:Nat):Int):=(by omega);have l2:¬(((16:Nat):Int)=((4*i:Nat):Int)):=(by omega);have l3:min 4 (16-4*i)=4:=(by omega);refine fq T.mixed [4] (by kernel_rfl) ?_;intro K hK;refine jN (Ai @f7 (Ai @f8 (Ai @f9 (Ai @a1 (Ai @l0 (Ai @l1 (Ai @l2 (Ai @l3 (Ai (show((16:Nat):Int)≤((16:Nat):Int) from by decide) (Ai (show(0:Int)≤((4:Nat):Int) from by decide) (Ai (show((4:Nat):Int)≤((4:Nat):Int) from by decide) (Ai (show ¬(((4:Nat):Int)=0) from by decide) (Ai @t9 (Ai @t7 (Ai @iF (Ai @bT (Ai @dM (Ai @pR (Ai @RK (Ai @ZT @ZT.symm)))))))))))))))))))) ?_;refine⟨by omega,hK _ _ ?_⟩;clear hK K;simp only[ar,az,if_true,if_false];refine br _ _ ?_;clear br K3;refine jD (Ai @f11 (cN i (by omega))) ?_;refine⟨⟨i+1,by omega,f2,f3,f4,f6,f7,rfl,by rw[hF'];exact AS.ae _ _ _,by rw[AS.ao _ h73.symm];exact t3,by rw[AS.ao _ h74.symm];exact t4,by rw[AS.ao _ Sh.symm];exact t6,AS.aE eM ZQ _⟩,?_⟩;simp only[wA,aH,↓reduceIte];omega
     clear hK br;cases last with
     |true=>
      rw[JK b i aY] at q9;refine jB @g2 ?_;refine jF ?_;refine ab ?_;exact Rw _ _ g2 g3 g4 g6 g7 g8 g9 g11 q9 q7 q3 q4 q6 ga
     |false=>
      have ZU:(wQ (vi b i)).map ai=(pg b false i).map ai:=(by rw[Hh b i aY]);have AF:((vi b i).map ai).length=4:=(by simp[vi]);have hpc:=C4 (Γ:=Γ) (vi b i) (by simp[vi]) s3;have Yh:List.take 4 ((vi b i).map ai)=(vi b i).map ai:=List.take_of_length_le (by omega);rw[ZU] at hpc;have iF:((pg b false i).map ai).length=4:=(by simp[pg]);have bT:=ck (pg b false i);generalize hC:(pg b false i).map ai=C at *
      generalize (vi b i).map ai=Pc at *
      refine jB @g2 ?_;refine jE ?_;refine jU (Ai @g9 (Ai @q9 (Ai @AF @Yh))) fun K hK=>?_;refine ad hpc ?_;rintro r5 s5 ⟨rfl,rfl⟩;refine jN (Ai @g9 (Ai @q9 (Ai @AF (Ai @iF @bT)))) ?_;rw[bB Pc C (by omega)];refine hK _ _ ?_;clear hK K;exact Rw _ _ g2 g3 g4 g6 g7 g8 g9 g11 (AS.ae _ _ _) (by rw[AS.ao _ ZT.symm];exact q7) (by rw[AS.ao _ ZR.symm];exact q3) (by rw[AS.ao _ ZS.symm];exact q4) (by rw[AS.ao _ n96.symm];exact q6) (AS.aE ga NN _)
  ·have fj:¬(i:Int)<4:=(by omega);obtain rfl:i=4:=(by omega);refine jB (Ai @wA (decide_eq_false fj)) ?_;refine wK fun K2 aX=>?_;refine jF ?_;refine aC ?_;simp only[az,ar,if_true];clear aX K2;refine hK _ _ ?_;clear hK K;rw[show 4*4=16 from rfl,fE,show(List.range 16).map (pf b last)=Aes.Ii b last from l9 (Aes.CX b last)] at j7;have wx:((Aes.Ii b last).map ai).length=16:=(by rw[List.length_map,Aes.CX]);have bT:=ck (Aes.Ii b last);have dM:List.take 16 ((Aes.Ii b last).map ai)=(Aes.Ii b last).map ai:=List.take_of_length_le (by omega);generalize (Aes.Ii b last).map ai=X at *
   refine jS (Ai @e6 (Ai @e7 (Ai @j6 (Ai @j7 (Ai @wx (Ai @dM (Ai @bT (Ai @Sh @Sh.symm)))))))) fun K hK=>?_;rw[bB Z X (by omega)];refine⟨by omega,hK _ _ ?_⟩;clear hK K;refine a8 ?_;refine eF (v:=.agg X) (o:=o6) (off:=0) e6 (AS.ae _ _ _) (by rw[T.KU];decide) (by simp only[↓DN,Qa,Qb,Qc,Qd,Qe,Qf,Qg,Qh,reduceCtorEq,↓reduceIte,Na,Nb,Nc,Nk,Nf,Ng,Nh,Za,Zb,Zc,TT,wx,dM]) ?_;exact⟨_,s,AV.aB.refl _,AS.aE hle ZP _,rfl,rfl⟩
theorem z167:bq prog 254=some (List.replicate 176 (bV 0)):=by kernel_rfl
theorem zp(F G:Nat→UInt8)(N:Nat):∀(xs:List UInt8)(i:Nat),(∀k,k<xs.length→xs.getD k 0=F (i+k))→bn (bg F G N i) i (xs.map ai)=bg F G N (i+xs.length)
  |[],i,_=>by simp[bn]
  |x::xs,i,h=>by
    have h0:=h 0 (by simp);simp only[List.getD_cons_zero,Nat.add_zero] at h0;rw[List.map_cons,bn,show ai x=bV x from rfl,dW F G N i x h0,zp F G N xs (i+1) (fun k hk=>by
      have:=h (k+1) (by simp;omega);rw[List.getD_cons_succ] at this;rw[this];congr 1;omega)]
    simp only[List.length_cons];congr 1;omega
def mM(key:List UInt8):List UInt8:=(List.range 176).map (Aes.ak key)
theorem BI(key:List UInt8):(mM key).length=176:=by simp[mM]
theorem BJ(key:List UInt8)(hk:key.length=16)(G:Nat→UInt8)(q m:Nat)(hq:q<11)(hm:(q+1)*16≤m):List.take 16 (List.drop (q*16) (bg (Aes.ak key) G 176 m))=(Aes.kr key q).map ai:=by
  have hl:=Aes.r7 hk q;apply List.ext_getElem
  · simp[bg,hl];omega
  · intro k h1 h2;have M0:k<16:=(by simpa[hl] using h2);simp only[List.getElem_take,List.getElem_drop,bg,List.getElem_map,List.getElem_range];rw[if_pos (by omega),Aes.ak,show(q*16+k)/16=q by omega,show(q*16+k)%16=k by omega];simp[List.getElem?_eq_getElem (show k<(Aes.kr key q).length by omega)]
def Dj(key:List UInt8)(q n:Nat):UInt8:=if n=(q+1)*16 then Aes.ak key n ^^^ Aes.JY q else Aes.ak key n
theorem P3(key:List UInt8)(hk:key.length=16)(q i:Nat)(hi:i<4):(Aes.kr key q).getD i 0 ^^^ Aes.S ((Aes.kr key q).getD (12+(i+1)%4) 0)=Dj key q ((q+1)*16+i):=by
  have hl:=Aes.Tj hk q i hi;have e1:Aes.ak key (16*q+i)=(Aes.kr key q).getD i 0:=(by rw[Aes.ak,show(16*q+i)/16=q by omega,show(16*q+i)%16=i by omega]);have e2:Aes.ak key (16*q+(12+(i+1)%4))=(Aes.kr key q).getD (12+(i+1)%4) 0:=(by rw[Aes.ak,show(16*q+(12+(i+1)%4))/16=q by omega,show(16*q+(12+(i+1)%4))%16=12+(i+1)%4 by omega]);rw[e1,e2] at hl;rw[Dj,show(q+1)*16+i=16*(q+1)+i by omega];by_cases h0:i=0
  · rw[if_pos h0] at hl;rw[if_pos (by omega),hl,UInt8.xor_assoc,UInt8.xor_self,UInt8.xor_zero]
  · rw[if_neg h0] at hl;rw[if_neg (by omega),hl]
theorem M3(key:List UInt8)(G:Nat→UInt8)(q:Nat):bg (Dj key q) G 176 ((q+1)*16)=bg (Aes.ak key) G 176 ((q+1)*16):=by
  unfold bg;apply List.map_congr_left;intro n _;by_cases h:n<(q+1)*16
  · rw[if_pos h,if_pos h,Dj,if_neg (by omega)]
  · rw[if_neg h,if_neg h]
theorem P4(key:List UInt8)(G:Nat→UInt8)(q:Nat)(hq:q<10):(bg (Dj key q) G 176 ((q+1)*16+4)).set ((q+1)*16) (bV (Dj key q ((q+1)*16) ^^^ Aes.JY q))=bg (Aes.ak key) G 176 ((q+1)*16+4):=by
  have e:Dj key q ((q+1)*16) ^^^ Aes.JY q=Aes.ak key ((q+1)*16):=by
    rw[Dj,if_pos rfl,UInt8.xor_assoc,UInt8.xor_self,UInt8.xor_zero]
  rw[e];apply List.ext_getElem?;intro k;by_cases h:k=(q+1)*16
  · subst h;rw[List.getElem?_set_self (by rw[dq];omega)];simp only[bg,List.getElem?_map];rw[List.getElem?_range (by omega)];simp only[Option.map_some];rw[if_pos (by omega)];rfl
  · rw[List.getElem?_set_ne (by omega)];simp only[bg,List.getElem?_map];by_cases hk:k<176
    · rw[List.getElem?_range hk];simp only[Option.map_some];rw[Dj,if_neg h]
    · rw[List.getElem?_eq_none (by simp;omega)];rfl
theorem JL(key:List UInt8)(hk:key.length=16)(q i:Nat)(h4:4≤i)(hi:i<16):(Aes.kr key q).getD i 0 ^^^ Aes.ak key ((q+1)*16+(i-4))=Aes.ak key ((q+1)*16+i):=by
  have hl:=Aes.PJ hk q i h4 hi;have e1:Aes.ak key (16*q+i)=(Aes.kr key q).getD i 0:=(by rw[Aes.ak,show(16*q+i)/16=q by omega,show(16*q+i)%16=i by omega]);rw[e1] at hl;rw[show(q+1)*16+i=16*(q+1)+i by omega,show(q+1)*16+(i-4)=16*(q+1)+(i-4) by omega,hl]
theorem ZV(m:Nat)(h:m<1000):ec .i64 12 (m:Int)=((12+m:Nat):Int):=by
  rw[eL (by omega)];omega
theorem xc8(x:UInt8):Aes.sb.getD x.toNat 0=Aes.S x:=rfl
end Go.Proofs.YtbiefppedlodiaaGreatDoor
