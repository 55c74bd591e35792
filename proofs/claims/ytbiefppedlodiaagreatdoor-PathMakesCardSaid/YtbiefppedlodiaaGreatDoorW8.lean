/- Contracts of functions, each walked once; each theorem states its conditions. -/
import Derived.Test.YtbiefppedlodiaaGreatDoorAMp6
import Derived.Test.YtbiefppedlodiaaGreatDoorW1
import Derived.Test.YtbiefppedlodiaaGreatDoorW7
import Derived.Test.YtbiefppedlodiaaGreatDoorW4
import Derived.Test.YtbiefppedlodiaaGreatDoorW6
import Derived.Test.YtbiefppedlodiaaGreatDoorW2
open Bool renaming and_eq_true -> au, false_eq_true -> al
open Go.IntKind renaming bits -> aD
open List renaming append_assoc -> aZ, drop -> aJ, ext_getElem? -> bg, getD_cons_succ -> bm, getD_cons_zero -> a8, getD_eq_getElem?_getD -> aN, getElem?_eq_getElem -> ag, getElem?_eq_none -> aU, getElem?_map -> aL, getElem?_set_self -> cK, length_append -> ai, length_cons -> aW, length_map -> ar, length_nil -> aV, length_pos_iff -> b9, length_take -> aS, map_congr_left -> bx, map_cons -> aB, mem_range -> br, range -> aq, replicate -> af, replicate_one -> bO, take -> aG, take_length -> cw, take_of_length_le -> ad, take_succ_eq_append_getElem -> ae
open Nat renaming le_refl -> ax, min_eq_left -> cR, pow_succ -> b8, shiftRight_eq_div_pow -> dG, zero_le -> az
open Option renaming getD_some -> bp, map_some -> cj
open UInt8 renaming ofNat -> aE
set_option linter.unusedSimpArgs false
set_option linter.unusedVariables false
open Nat renaming reduceLT -> Na, reduceLeDiff -> Nb, reduceEqDiff -> Nc, reduceAdd -> Nk, reduceMul -> Nf, reducePow -> Ng, reduceSub -> Nh, reduceBEq -> Nz
open Int renaming reduceLT -> Za, reduceLE -> Zb, reduceToNat -> Zc
open And renaming intro -> Ai
open Go.AM renaming ashift -> Qa, aconv -> Qb, aindexAddr -> Qc, aindex -> Qd, aslice -> Qe, abuiltin -> Qf, awp_reg_seq -> wS, awp_reg_end -> wE, awp_seq_k -> wK, awp_cond_k -> wC
open Go.AM.AV renaming cells -> Qg, one -> Qh
set_option maxRecDepth 100000
set_option maxHeartbeats 8000000
namespace Go.Proofs.YtbiefppedlodiaaGreatDoor
open Go Go.AM Go.Proofs Tryz
variable{Γ:Nat->List AV}
theorem zU(o:Nat)(l:List UInt8)(h0:l≠[])(hl:l.length<=2^40)(s:AS)(ho:s.dD o=some (l.map cU)):
  dS prog Γ 90 [.jd o 0 1 l.length l.length] s (fun r s'=>iN s l r s'):=by
 refine xH func90 ntmps90 results90 ?_;have hp:¬l.length=0:=fun e=>h0 (List.eq_nil_of_length_eq_zero e);refine xKw fun K hK=>?_;refine gW ?_;refine hK _ _<|wS fun K hK=>?_;simp only[↓DN,Qa,Qb,Qc,Qd,Qe,Qf,Qg,Qh,seval,TT,ho,hp,ax,cw];refine⟨oM,oM,fun t ht=>hK _ _ ?_⟩;refine jI ?_;exact⟨_,_,AV.dV.refl _,AS.le.refl _,AS.eE (AS.le.refl s) ht 0,.inr ⟨t,0,ht,by simp[AS.eT,dY],rfl⟩⟩
theorem _root_.Go.AM.iN.behind{s s':AS}{l:List UInt8}{r:AV}{o:Nat}{cs:List AV}(h:iN (s.set o cs) l r s')(ho:s.dD o=none):iN s l r s':=
 ⟨AS.le.trans (AS.dW (AS.le.refl s) ho _) h.1,h.2⟩
theorem xau:((64:Nat):Int)=64:=rfl
theorem uD(l:List UInt8)(hl:l.length=64)(x:UInt8)(s:AS):
  dS prog Γ 213 [.agg (l.map cU),cU x] s (fun r s'=>iN s (Mac.turn x l) r s'):=by
 refine xH func213 ntmps213 results213 ?_;have zX:(l.map cU).length=64:=(by rw[ar,hl]);rw[show cU x=.v (.int .u8 (x.toNat:Int)) from rfl];refine jS @zX fun K hK=>?_;intro o ho;refine hK _ _ ?_;clear hK K;refine Jc fun K hK=>?_;refine dU (fun E s2=>∃i:Nat,i<=64∧E 1=.v (.int .u8 (x.toNat:Int))∧E 2=.ptr o 0∧E 6=.v (.int .i64 i)∧s2=s.set o ((Mac.part x l i).map cU))
  (fun E _=>match E 6 with |.v (.int _ y)=>64-y.toNat|_=>0) ?_ ?_
 ·exact⟨0,oM,by simp only[dY,eV,Nc,↓reduceIte,bm,a8],rfl,rfl,by rw[Mac.Qs]⟩
 ·rintro E2 s2 ⟨i,hi,g1,g2,g6,rfl⟩ -
  by_cases et:i<64
  ·have fB:(i:Int)<64:=oM;have pB:(i:Int)<((64:Nat):Int):=oM;have lu:(0:Int)<=(i:Int):=oM;have lr:=Mac.Tt x l i oM;have fO:=Mac.Tu x l i oM;have hlen:((Mac.part x l i).map cU).length=64:=(by rw[ar,Mac.La,hl]);have Uk:=Mac.Es (l.getD i 0) x;generalize l.getD i 0=c at *
   rw[show cU c=.v (.int .u8 (c.toNat:Int)) from rfl] at lr;rw[show cU (c ^^^ x)=.v (.int .u8 ((c ^^^ x).toNat:Int)) from rfl] at fO;refine jB (Ai @g6 (dT fB)) ?_;refine Ja fun K2 eH=>?_;refine eH _ _<|nF fun K3 eX=>?_;refine jB @g6 ?_;generalize UW:(Mac.part x l i).map cU=X0 at *
   refine jU (Ai @g1 (Ai @g2 (Ai @g6 (Ai @lu (Ai @fB (Ai @pB (Ai @hlen (Ai @lr (Ai @Uk (Ai @fO @xau)))))))))) fun K hK=>?_;refine⟨oM,?_⟩;refine hK _ _ ?_;clear hK K;simp only[dJ,dn,if_true,if_false];refine eX _ _<|jD (Ai @g6 (fy i oM)) ?_;refine⟨⟨i+1,oM,g1,g2,rfl,rfl⟩,?_⟩;simp only[g6,dY,↓reduceIte];omega
  ·have fB:¬(i:Int)<64:=oM;obtain rfl:i=64:=oM;refine jB (Ai @g6 (dF fB)) ?_;refine Jb fun K2 eH=>?_;simp only[dJ,dn,if_true];refine hK _ _ ?_;rw[Mac.Ts x l 64 oM];have nD:(Mac.turn x l).length=64:=(by rw[Mac.sV,hl]);refine jS (Ai @g2 @Int.le_refl) fun K hK=>?_;have hc:=zU (Γ:=Γ) o (Mac.turn x l) (by rw[<-b9];omega) oM (s.set o ((Mac.turn x l).map cU)) (AS.bG _ _ _);rw[nD] at hc;refine b6 hc ?_;intro r s3 eU;refine jR hK ?_;refine jI ?_;exact⟨_,_,AV.dV.refl _,AS.le.refl _,eU.behind ho⟩
theorem _root_.Go.AM.iN.under{s s1 s2:AS}{l:List UInt8}{r:AV}(h:iN s1 l r s2)(hle:s.le s1):iN s l r s2:=by
 refine⟨AS.le.trans hle h.1,?_⟩;rcases h.2 with h|⟨t,e,h1,h2,h3⟩
 ·exact .inl h
 ·refine .inr ⟨t,e,?_,h2,h3⟩;cases hs:s.own t with
  |none=>rfl
  |some g=>rw[hle.own t g hs] at h1;cases h1
theorem xhx:eO prog 232=some (af 64 (.v (.int .u8 0))):=kM
theorem tK(jg:Γ 0=jZ Sha.H0)(hG:Γ 1=Sha.K.map wV)(key:List UInt8)(ls:List (List UInt8))(sp:Sp)(hk:key.length<=2^38)(hn:ls.length<=2^38)(hl:ls.flatten.length<=2^38)(s:AS):
  dS prog Γ 180 [dm key .any,.sl 1 ls.length (mL ls) sp] s (fun r s'=>iN s (Mac.tag key ls.flatten) r s'):=by
 refine fm func180 rfl ntmps180 results180 (by simp) ?_;refine jA ?_;refine wK fun K hK=>?_;have qW:∀(E1:Env)(s1:AS)(sp1:Sp),E1 0=.sl 1 (Mac.key key).length ((Mac.key key).map cU) sp1->E1 1=.sl 1 ls.length (mL ls) sp->s.le s1->K E1 s1:=by
  intro E1 s1 sp1 e0 e1 hle;refine hK _ _ ?_;clear hK K;have sD:=Mac.Tr key;generalize hkk:Mac.key key=kk at *
  refine jS @xhx fun K hK=>?_;intro o ho;refine hK _ _ ?_;clear hK K;have h0:(0:Int)<=((64:Nat):Int):=(by decide);have ir:(kk.map cU).take kk.length=kk.map cU:=List.take_of_length_le (by simp);have C0:min kk.length 64=kk.length:=Nat.min_eq_left sD;have I9:eQ (List.replicate 64 (.v (.int .u8 0))) 0 (kk.map cU)=(Mac.fill kk).map cU:=Mac.NT kk sD;refine wS fun K hK=>?_;simp only[↓DN,Qa,Qb,Qc,Qd,Qe,Qf,Qg,Qh,reduceCtorEq,↓reduceIte,Na,Nb,Nc,Nk,Nf,Ng,Nh,Za,Zb,Zc,TT,e0,h0,Int.le_refl,ite_self,C0,ir,I9,List.length_replicate,sD];refine hK _ _ ?_;clear hK K;have uK:=Mac.vI kk sD;have xdK:((Mac.fill kk).map cU).length=64:=(by rw[List.length_map,uK]);have htf:((Mac.fill kk).map cU).take 64=(Mac.fill kk).map cU:=List.take_of_length_le (by omega);have xdL:∀x:AV,List.replicate 2 x=[x,x]:=fun _=>rfl;generalize hb:Mac.fill kk=bl at *
  have Jj:=uD (Γ:=Γ) bl uK 54;have VU:=uD (Γ:=Γ) bl uK 92;have tl1:(Mac.turn 54 bl).length=64:=(by rw[Mac.sV,uK]);have tl2:(Mac.turn 92 bl).length=64:=(by rw[Mac.sV,uK]);rw[show cU 54=.v (.int .u8 54) from rfl] at Jj;rw[show cU 92=.v (.int .u8 92) from rfl] at VU;refine jS (Ai @htf (Ai @xdK @Nat.le_refl)) fun K hK=>?_;refine b6 (Jj _) ?_;intro r s2 eU;have iL:s.le s2:=(AS.le.trans hle (AS.dW (AS.le.refl s1) ho _)).trans eU.1;have tj:s2.dD o=some (bl.map cU):=eU.1.dD _ _ (AS.bG _ _ _);have Oj:=eU.dV;obtain⟨t1,g1,rfl⟩:=gD eU (by rw[<-List.length_pos_iff,tl1];decide);clear eU;refine jN @e1 ?_;refine b6 (qj ls sp (by omega) (by omega) _) ?_;intro r s3 eU;have mi:s.le s3:=AS.le.trans iL eU.1;have FR:s3.dD o=some (bl.map cU):=eU.1.dD _ _ tj;have hw2:=eU.dV;have lA:=qD (Γ:=Γ) jg hG [Mac.turn 54 bl,ls.flatten] .new (by simp) (by simp only[List.flatten_cons,List.flatten_nil,List.append_nil,List.length_append,tl1];omega) s3;rw[show[Mac.turn 54 bl,ls.flatten].flatten=Mac.turn 54 bl++ls.flatten from by simp] at lA;have CB:Sha.sum (Mac.turn 54 bl++ls.flatten)=Mac.inner key ls.flatten:=(by rw[Mac.inner,hkk,hb]);have Ft:Sha.sum (Mac.turn 92 bl++Mac.inner key ls.flatten)=Mac.tag key ls.flatten:=(by rw[Mac.tag,hkk,hb]);rw[CB] at lA;have xdM:∀(E2:Env)(s4:AS)(r:AV),E2 5=.ptr o 0->E2 6=r->iN s3 (Mac.inner key ls.flatten) r s4->K E2 s4:=by
   intro E2 s4 r g5 g6 eU;refine hK _ _ ?_;clear hK K;have ie:s.le s4:=AS.le.trans mi eU.1;have IC:s4.dD o=some (bl.map cU):=eU.1.dD _ _ FR;have Xy:=eU.dV;have Vj:=Mac.GL key ls.flatten;obtain⟨t3,g3,rfl⟩:=gD eU (by rw[<-List.length_pos_iff,Vj];decide);clear eU;refine jS (Ai @g5 (Ai @IC (Ai @htf (Ai @xdK @Nat.le_refl)))) fun K hK=>?_;refine b6 (VU _) ?_;intro r s5 eU;have hw4:=eU.dV;have ly:s.le s5:=AS.le.trans ie eU.1;obtain⟨t4,g4,rfl⟩:=gD eU (by rw[<-List.length_pos_iff,tl2];decide);clear eU;have oq:=qD (Γ:=Γ) jg hG [Mac.turn 92 bl,Mac.inner key ls.flatten] .new (by simp) (by simp only[List.flatten_cons,List.flatten_nil,List.append_nil,List.length_append,tl2,Vj];omega) s5;rw[show[Mac.turn 92 bl,Mac.inner key ls.flatten].flatten=Mac.turn 92 bl++Mac.inner key ls.flatten from by simp,Ft] at oq;refine jN (Ai @g6 @xdL) ?_;refine b6 (dS.mB (kj.dV.cons (AV.vk (kj.dV.cons hw4 (kj.dV.cons Xy kj.dV.nil))) kj.dV.nil) oq) ?_;intro r s6 eU;refine jR hK ?_;clear hK K;refine jI ?_;exact⟨_,_,AV.dV.refl _,AS.le.refl _,eU.under ly⟩
  rcases eU.2 with⟨_,rfl⟩|⟨t2,g2,_,_,rfl⟩;all_goals
   refine jN @xdL ?_;refine b6 (dS.mB (kj.dV.cons (AV.vk (kj.dV.cons Oj (kj.dV.cons hw2 kj.dV.nil))) kj.dV.nil) lA) ?_;intro r s4 eU;refine jM ?_;refine xdM _ _ r ?_ ?_ eU
   ·simp only[dY,Nc,↓reduceIte]
   ·simp only[dY,↓reduceIte]
 by_cases GZ:64<key.length
 ·have pR:Mac.key key=Sha.sum key:=(by rw[Mac.key,if_pos GZ]);rw[pR] at qW;refine jB (decide_eq_true (show(64:Int)<(key.length:Int) by omega)) ?_;refine jE ?_;refine wE fun K hK=>?_;simp only[↓DN,Qa,Qb,Qc,Qd,Qe,Qf,Qg,Qh,reduceCtorEq,↓reduceIte,Na,Nb,Nc,Nk,Nf,Ng,Nh,Za,Zb,Zc,TT,List.replicate_one];have pZ:=qD (Γ:=Γ) jg hG [key] .new (by simp) (by simp;omega) s;rw[show[key].flatten=key from by simp] at pZ;refine b6 pZ ?_;intro r s1 eU;obtain⟨t,g,rfl⟩:=gD eU (by rw[<-List.length_pos_iff,Sha.im];decide);refine jR hK ?_;clear hK K;simp only[dJ];refine qW _ _ (.own t g) ?_ ?_ eU.1
  ·simp only[dY,↓reduceIte]
  ·simp only[dY,eV,Nc,↓reduceIte,List.getD_cons_succ,List.getD_cons_zero]
 ·have pR:Mac.key key=key:=(by rw[Mac.key,if_neg GZ]);rw[pR] at qW;refine jB (decide_eq_false (show ¬(64:Int)<(key.length:Int) by omega)) ?_;refine jF ?_;refine dX ?_;simp only[dJ];refine qW _ _ .any ?_ ?_ (AS.le.refl s)
  ·simp only[dY,eV,Nc,↓reduceIte,List.getD_cons_succ,List.getD_cons_zero,dm]
  ·simp only[dY,eV,Nc,↓reduceIte,List.getD_cons_succ,List.getD_cons_zero]
theorem Ul(k:List UInt8)(i:Nat)(h:i<k.length)(hk:k.length<=64):(Mac.fill k)[i]'(by rw[Mac.vI k hk];omega)=k[i]:=by
 simp only[Mac.fill];rw[List.getElem_append_left h]
theorem Um(k:List UInt8)(i:Nat)(h:¬i<k.length)(hi:i<64)(hk:k.length<=64):(Mac.fill k)[i]'(by rw[Mac.vI k hk];omega)=0:=by
 simp only[Mac.fill];rw[List.getElem_append_right oM,List.getElem_replicate]
theorem QI(x:UInt8)(l:List UInt8)(i:Nat)(h:i<l.length):Mac.turn x (l.take (i+1))=Mac.turn x (l.take i)++[l[i] ^^^ x]:=by
 rw[ae h];simp only[Mac.turn,List.map_append,aB,List.map_nil]
theorem uE(key:List UInt8)(hk:key.length<=64)(x:UInt8)(s:AS):
  aI prog Γ 203 [.v (.string ⟨key.toArray⟩),.v (.int .u8 (x.toNat:Int))] s (.v (.string ⟨(Mac.turn x (Mac.fill key)).toArray⟩)):=by
 refine xH func203 ntmps203 results203 ?_;have uK:=Mac.vI key hk;refine UL fun K hK=>?_;refine dU (fun E s1=>∃i:Nat,i<=64∧E 0=.v (.string ⟨key.toArray⟩)∧E 1=.v (.int .u8 (x.toNat:Int))∧E 6=.v (.int .i64 i)∧iN s (Mac.turn x ((Mac.fill key).take i)) (E 5) s1)
  (fun E _=>match E 6 with |.v (.int _ i)=>64-i.toNat|_=>0) ?_ ?_
 ·exact⟨0,az _,by simp only[dY,eV,Nc,↓reduceIte,bm,a8],by simp only[dY,eV,Nc,↓reduceIte,bm,a8],rfl,by simp only[dY,Nc,↓reduceIte];exact iN.nil s⟩
 ·rintro E1 s1 ⟨i,hi,e0,e1,e6,eU⟩ -
  refine wK fun K2 eH=>?_;by_cases et:i<64
  ·have fB:(i:Int)<64:=oM;have gC:(0:Int)<=(i:Int):=oM;have hts:=QI x (Mac.fill key) i oM;have hg1:=Ul key i;have Vv:=Um key i;refine jB (Ai @e6 (dT fB)) ?_;refine ue ?_;refine eH _ _<|nF fun K3 eX=>?_;refine yd fun K4 jm=>?_;have qW:∀(E2:Env)(c:UInt8),(Mac.fill key)[i]'oM=c->E2 0=.v (.string ⟨key.toArray⟩)->E2 1=.v (.int .u8 (x.toNat:Int))->E2 6=.v (.int .i64 i)->E2 5=E1 5->E2 7=.v (.int .u8 (c.toNat:Int))->K4 E2 s1:=by
    intro E2 c hc f0 f1 f6 f5 f7;refine jm _ _ ?_;rw[hc] at hts;have Uk:=Mac.Es c x;generalize zG:E1 5=r6 at eU f5;refine wE fun K hK=>?_;simp only[↓DN,Qa,Qb,Qc,Qd,Qe,Qf,Qg,Qh,seval,TT,f0,f1,f5,f6,f7,Uk,bO];refine hJ (ds:=[c ^^^ x]) eU rfl rfl T.c5 T.b5 (by simp[Mac.turn];omega) ?_;intro r2 s2 h2;rw[<-hts] at h2;refine hK _ _ ?_;clear hK K;simp only[dJ,dn,if_true,if_false];refine eX _ _<|jD (Ai @f6 (fy i oM)) ?_;refine⟨⟨i+1,oM,f0,f1,rfl,by simpa only[dY,Nc,↓reduceIte] using h2⟩,?_⟩;simp only[e6,dY,↓reduceIte];omega
   by_cases hik:i<key.length
   ·have lr:=WT key i hik;have hg:=hg1 hik hk;generalize key[i]=c at *
    refine jB (Ai @e0 (Ai @e6 (Ai @gK (dT (show(i:Int)<(key.length:Int) by omega))))) ?_;refine jE<|jU (Ai @e0 (Ai @e6 (Ai @gC @lr))) fun K hK=>?_;refine hK _ _ ?_;clear hK;simp only[dJ];refine qW _ c hg ?_ ?_ ?_ ?_ ?_
    ·simp only[dY,e0,Nc,↓reduceIte]
    ·simp only[dY,e1,Nc,↓reduceIte]
    ·simp only[dY,e6,Nc,↓reduceIte]
    ·simp only[dY,Nc,↓reduceIte]
    ·simp only[dY,↓reduceIte];rfl
   ·have hg:=Vv hik et hk;refine jB (Ai @e0 (Ai @e6 (Ai @gK (dF (show ¬(i:Int)<(key.length:Int) by omega))))) ?_;refine gW ?_;simp only[dJ];refine qW _ 0 hg ?_ ?_ ?_ ?_ ?_
    ·simp only[dY,e0,Nc,↓reduceIte]
    ·simp only[dY,e1,Nc,↓reduceIte]
    ·simp only[dY,e6,Nc,↓reduceIte]
    ·simp only[dY,Nc,↓reduceIte]
    ·simp only[dY,Nc,↓reduceIte];rfl
  ·have fB:¬(i:Int)<64:=oM;obtain rfl:i=64:=oM;refine jB (Ai @e6 (dF fB)) ?_;refine sI ?_;simp only[dJ,dn,if_true];refine hK _ _ ?_;rw[ad oM] at eU;have nD:(Mac.turn x (Mac.fill key)).length=64:=(by rw[Mac.sV,uK]);have hle:=eU.1;obtain⟨t,g,e5⟩:=gD eU (by rw[<-b9,nD];decide);refine jB @e5 ?_;refine jI ?_;exact⟨_,_,AV.dV.refl _,hle,rfl,rfl⟩
theorem tI(key l:List UInt8)(hk:key.length<=2^38)(hl:l.length<=2^38)(s:AS):
  aI prog Γ 166 [.v (.string ⟨key.toArray⟩),.v (.string ⟨l.toArray⟩)] s (.v (.string ⟨(Mac.tag key l).toArray⟩)):=by
 refine xH func166 ntmps166 results166 ?_;refine yd fun K hK=>?_;have qW:∀(E1:Env),E1 0=.v (.string ⟨(Mac.key key).toArray⟩)->E1 1=.v (.string ⟨l.toArray⟩)->K E1 s:=by
  intro E1 e0 e1;refine hK _ _ ?_;have sD:=Mac.Tr key;have CB:Sha.sum (Mac.turn 54 (Mac.fill (Mac.key key))++l)=Mac.inner key l:=rfl;have Ft:Sha.sum (Mac.turn 92 (Mac.fill (Mac.key key))++Mac.inner key l)=Mac.tag key l:=rfl;have uK:=Mac.vI _ sD;have Vj:=Mac.GL key l;have tl1:(Mac.turn 54 (Mac.fill (Mac.key key))).length=64:=(by rw[Mac.sV,uK]);have tl2:(Mac.turn 92 (Mac.fill (Mac.key key))).length=64:=(by rw[Mac.sV,uK]);generalize hkk:Mac.key key=kk at *
  refine jS @e0 fun K hK=>?_;refine b6 (uE kk sD 92 s) ?_;rintro r s1 ⟨rfl,rfl⟩;refine jN @e0 ?_;refine b6 (uE kk sD 54 s1) ?_;rintro r s2 ⟨rfl,rfl⟩;refine jN (Ai @e1 (eS (show(Mac.turn 54 (Mac.fill kk)).length+l.length<2^62 by omega))) ?_;refine b6 (mz (Mac.turn 54 (Mac.fill kk)++l) (by rw[ai,tl1];omega) s2) ?_;rintro r s3 ⟨rfl,rfl⟩;rw[CB];refine jN (eS (show(Mac.turn 92 (Mac.fill kk)).length+(Mac.inner key l).length<2^62 by omega)) ?_;refine b6 (mz (Mac.turn 92 (Mac.fill kk)++Mac.inner key l) (by rw[ai,tl2,Vj];decide) s3) ?_;rintro r s4 ⟨rfl,rfl⟩;rw[Ft];refine jR hK ?_;exact jJ
 by_cases GZ:64<key.length
 ·have pR:Mac.key key=Sha.sum key:=(by rw[Mac.key,if_pos GZ]);rw[pR] at qW;refine jB (dT (show(64:Int)<(key.length:Int) by omega)) ?_;refine jE<|jL (mz key oM s) ?_;rintro s1 rfl;simp only[dJ];refine qW _ ?_ ?_
  ·simp only[dY,↓reduceIte]
  ·simp only[dY,eV,Nc,↓reduceIte,bm,a8]
 ·have pR:Mac.key key=key:=(by rw[Mac.key,if_neg GZ]);rw[pR] at qW;refine jB (dF (show ¬(64:Int)<(key.length:Int) by omega)) ?_;refine gW ?_;simp only[dJ];refine qW _ ?_ ?_
  ·simp only[dY,eV,Nc,↓reduceIte,bm,a8]
  ·simp only[dY,eV,Nc,↓reduceIte,bm,a8]
def nothing:List UInt8:=[119,104,97,116,32,100,111,32,121,97,32,119,97,110,116,32,102,111,114,32,110,111,116,104,105,110,103,63]
theorem M4(a b:List UInt8):mL [a,b]=[dm a .any,dm b .any]:=rfl
theorem Lq(c x y:UInt8):c ||| (x ^^^ y)=0↔c=0∧x=y:=by
 rw[UInt8.or_eq_zero_iff,UInt8.xor_eq_zero_iff]
theorem WZ(a b:UInt8):L5 .u8 (a.toNat:Int) (b.toNat:Int)=((a ||| b).toNat:Int):=by
 rw[Ge (k:=.u8) rfl a.toNat b.toNat (by simpa[aD] using a.toNat_lt) (by simpa[aD] using b.toNat_lt),UInt8.toNat_or]
theorem QJ(c:UInt8):((c.toNat:Int)==0)=decide (c=0):=by
 rw[Bool.eq_iff_iff,beq_iff_eq,decide_eq_true_iff,<-UInt8.toNat_inj];simp
theorem take_same(a b:List UInt8)(i:Nat)(ha:i<a.length)(hb:i<b.length):a.take (i+1)=b.take (i+1)↔a.take i=b.take i∧a.getD i 0=b.getD i 0:=by
 rw[ae ha,ae hb];have e1:(a.take i).length=(b.take i).length:=(by simp;omega);constructor
 ·intro h;have:=List.append_inj h e1;refine⟨this.1,?_⟩;simp only[aN,ag ha,ag hb,bp];simpa using this.2
 ·rintro⟨h1,h2⟩;simp only[aN,ag ha,ag hb,bp] at h2;rw[h1,h2]
theorem M5(a b:List UInt8)(ha:a.length<=2^40)(s:AS):
  aI prog Γ 212 [dm a .any,dm b .any] s (.v (.bool (decide (a=b)))):=by
 refine xH func212 ntmps212 results212 ?_;refine yd fun K hK=>?_;by_cases gP:a.length=b.length
 ·refine jB (show((a.length:Int) != (b.length:Int))=false from by rw[gP];simp) ?_;refine gW ?_;refine hK _ _<|Q2 fun K hK=>?_;refine dU (fun E s2=>∃(i:Nat)(c:UInt8),i<=a.length∧E 0=.sl 1 a.length (a.map cU) .any∧E 1=.sl 1 b.length (b.map cU) .any∧E 5=.v (.int .u8 (c.toNat:Int))∧E 13=.v (.int .i64 a.length)∧E 14=.v (.int .i64 i)∧(c=0↔a.take i=b.take i)∧s2=s)
   (fun E _=>match E 14 with |.v (.int _ y)=>a.length-y.toNat|_=>0) ?_ ?_
  ·exact⟨0,0,oM,by simp only[dY,eV,Nc,↓reduceIte,bm,a8,dm],by simp only[dY,eV,Nc,↓reduceIte,bm,a8,dm],rfl,rfl,rfl,sM,rfl⟩
  ·rintro E2 s2 ⟨i,c,hi,g0,g1,g5,g13,g14,hc,rfl⟩ -
   by_cases et:i<a.length
   ·have fB:(i:Int)<(a.length:Int):=oM;have pB:(i:Int)<(b.length:Int):=oM;have lu:(0:Int)<=(i:Int):=oM;have hga:=TI a i et;have hgb:=TI b i oM;have hts:=take_same a b i et oM;generalize a.getD i 0=x at *
    generalize b.getD i 0=y at *
    have Uk:=Mac.Es x y;have hor:=WZ c (x ^^^ y);have hz:=Lq c x y;refine jB (Ai @g13 (Ai @g14 (dT fB))) ?_;refine Ja fun K2 eH=>?_;refine eH _ _<|nF fun K3 eX=>?_;refine jB @g14 ?_;refine iw T.mixed [] kM ?_;intro K hK;refine jV (Ai @g0 (Ai @g1 (Ai @g5 (Ai @lu (Ai @fB (Ai @pB (Ai @hga (Ai @hgb (Ai @Uk @hor))))))))) hK ?_;clear hK K;simp only[dJ,dn,if_true,if_false];refine eX _ _<|jD (Ai @g14 (fy i oM)) ?_;refine⟨⟨i+1,c ||| (x ^^^ y),oM,g0,g1,rfl,g13,rfl,?_,rfl⟩,?_⟩
    ·rw[hz,hc,hts]
    ·simp only[g14,dY,↓reduceIte];omega
   ·have fB:¬(i:Int)<(a.length:Int):=oM;obtain rfl:i=a.length:=oM;refine jB (Ai @g13 (Ai @g14 (dF fB))) ?_;refine Jb fun K2 eH=>?_;simp only[dJ,dn,if_true];refine hK _ _ ?_;rw[cw,gP,cw] at hc;have hr:((c.toNat:Int)==0)=decide (a=b):=by
     rw[QJ];exact decide_eq_decide.2 hc
    refine jB (Ai @g5 @hr) ?_;exact jJ
 ·refine jB (show((a.length:Int) != (b.length:Int))=true from by rw[bne_iff_ne];omega) ?_;refine mS ?_;exact⟨.v (.bool false),_,AV.dV.refl _,AS.le.refl _,by rw[dF (fun e=>gP (by rw[e]))],rfl⟩
theorem Fw(jg:Γ 0=jZ Sha.H0)(hG:Γ 1=Sha.K.map wV)(W4 l:List UInt8)(hk:W4.length<=2^38)(hl:l.length<=2^38)(s:AS):
  dS prog Γ 185 [dm W4 .any,dm l .any] s (fun r s'=>iN s (Mac.tag W4 l) r s'):=by
 refine xH func185 ntmps185 results185 ?_;refine jA ?_;refine wS fun K hK=>?_;simp only[↓DN,Qa,Qb,Qc,Qd,Qe,Qf,Qg,Qh,seval,TT,bO];have hm:=tK (Γ:=Γ) jg hG W4 [l] .new hk sM (by simpa using hl) s;rw[show[l].flatten=l from sM] at hm;refine b6 hm ?_;intro r s1 eU;refine jR hK ?_;refine jI ?_;exact⟨_,_,AV.dV.refl _,AS.le.refl _,eU⟩
theorem _root_.Go.AM.iN.later{s s1 s2:AS}{l:List UInt8}{r:AV}(h:iN s l r s1)(hle:s1.le s2):iN s l r s2:=by
 refine⟨AS.le.trans h.1 hle,?_⟩;rcases h.2 with h|⟨t,e,h1,h2,h3⟩
 ·exact .inl h
 ·exact .inr ⟨t,e,h1,hle.own t e h2,h3⟩
def G7(l:List UInt8)(r:AV):Prop:=(l=[]∧r=.v (.slice none 0 0))∨∃t e,r=.sl 1 l.length (l.map cU) (.own t e)
theorem G7.dV{l:List UInt8}{r:AV}(h:G7 l r):r.dV (dm l .any):=by
 rcases h with⟨rfl,rfl⟩|⟨t,e,rfl⟩
 ·exact AV.eh
 ·exact AV.fc
theorem G7.of{s s':AS}{l:List UInt8}{r:AV}(h:iN s l r s'):G7 l r:=by
 rcases h.2 with⟨h1,h2⟩|⟨t,e,_,_,h3⟩
 ·exact .inl ⟨h1,h2⟩
 ·exact .inr ⟨t,e,h3⟩
theorem W5(c:UInt8):iY .u8 (c.toNat:Int) 1=((c+1).toNat:Int):=by
 rw[show(1:Int)=((1:Nat):Int) from rfl,Ah (k:=.u8) rfl];simp[aD,UInt8.toNat_add]
theorem IV(jg:Γ 0=jZ Sha.H0)(hG:Γ 1=Sha.K.map wV)(ei info:List UInt8)(hk:ei.length<=2^37)(hi:info.length<=2^37)(n:Int)(s:AS):
  dS prog Γ 146 [dm ei .any,dm info .any,.v (.int .i64 n)] s (fun r s'=>r=.ka [dm (Kdf.get ei info n) .any,.v (.bool (Kdf.ok n))]∧s'=s):=by
 refine fm func146 rfl ntmps146 results146 (by simp) ?_;refine jA ?_;refine wK fun K hK=>?_;by_cases h0:n<0
 ·have mR:Kdf.ok n=false:=(by simp[Kdf.ok];omega);refine jB (decide_eq_true h0) ?_;refine jE ?_;refine jA ?_;refine jI ?_;exact⟨_,_,AV.gJ AV.eh (AV.dV.refl _),AS.le.refl _,by rw[Kdf.get,mR];rfl,rfl⟩
 by_cases h1:8160<n
 ·have mR:Kdf.ok n=false:=(by simp[Kdf.ok];omega);refine jB (Ai (decide_eq_false h0) (decide_eq_true h1)) ?_;refine jE ?_;refine jA ?_;refine jI ?_;exact⟨_,_,AV.gJ AV.eh (AV.dV.refl _),AS.le.refl _,by rw[Kdf.get,mR];rfl,rfl⟩
 ·have mR:Kdf.ok n=true:=(by simp[Kdf.ok];omega);obtain⟨m,rfl⟩:∃m:Nat,n=(m:Int):=⟨n.toNat,by omega⟩;have hm:m<=8160:=(by omega);have lr:Kdf.get ei info (m:Int)=Kdf.expand ei info m:=(by rw[Kdf.get,mR];rfl);rw[mR,lr];refine jB (Ai (decide_eq_false h0) (decide_eq_false h1)) ?_;refine jF ?_;refine dX ?_;refine hK _ _ ?_;clear hK K;refine jA ?_;refine wK fun K hK=>?_;refine jA ?_;refine dH ?_;have hmr:32*Kdf.rounds m<=8191:=(by unfold Kdf.rounds;omega);refine dU (fun E s1=>∃i:Nat,i<=Kdf.rounds m∧E 0=.sl 1 ei.length (ei.map cU) .any∧E 1=.sl 1 info.length (info.map cU) .any∧E 2=.v (.int .i64 m)∧E 10=.v (.int .u8 ((UInt8.ofNat (i+1)).toNat:Int))∧G7 (Kdf.sZ ei info i) (E 9)∧iN s (Kdf.row ei info i) (E 8) s1)
   (fun E _=>match E 8 with |.sl _ n _ _=>m-n|_=>m+1) ?_ ?_
  ·refine⟨0,Nat.zero_le _,by simp only[dY,eV,Nc,↓reduceIte,List.getD_cons_succ,List.getD_cons_zero,dm],by simp only[dY,eV,Nc,↓reduceIte,List.getD_cons_succ,List.getD_cons_zero,dm],by simp only[dY,eV,Nc,↓reduceIte,List.getD_cons_succ,List.getD_cons_zero],rfl,?_,?_⟩
   ·simp only[dY,Nc,↓reduceIte];exact .inl ⟨rfl,rfl⟩
   ·simp only[dY,Nc,↓reduceIte];exact iN.nil s
  ·rintro E2 s2 ⟨i,hir,g0,g1,g2,g10,G8,eU⟩ -
   refine wK fun K2 eH=>?_;have Ax:=Kdf.gU ei info i;have xav:=Kdf.due m i;have Yl:m-32*i<=(match E2 8 with |.sl _ n _ _=>m-n|_=>m+1):=by
    rcases eU.2 with⟨LK,e8⟩|⟨t,e,_,_,e8⟩
    ·rw[e8];simp only;omega
    ·rw[e8];simp only[Ax];exact Nat.le_refl _
   generalize Yv:E2 8=r8 at eU;generalize hr9:E2 9=r9 at G8;by_cases et:i<Kdf.rounds m
   ·have fB:32*i<m:=xav.2 et;have qW:∀E3:Env,E3 0=.sl 1 ei.length (ei.map cU) .any->E3 1=.sl 1 info.length (info.map cU) .any->E3 2=.v (.int .i64 m)->E3 10=.v (.int .u8 ((UInt8.ofNat (i+1)).toNat:Int))->E3 8=r8->E3 9=r9->K2 E3 s2:=by
     intro E3 f0 f1 f2 f10 f8 f9;refine eH _ _ ?_;clear eH K2;refine wK fun K3 eX=>?_;refine dH ?_;have HW:=Kdf.zO ei info i;have VP:Kdf.sZ ei info (i+1)=Mac.tag ei (Kdf.sZ ei info i++info++[UInt8.ofNat (i+1)]):=rfl;have Cc:Kdf.row ei info (i+1)=Kdf.row ei info i++Kdf.sZ ei info (i+1):=rfl;have xhy:(Kdf.sZ ei info i).length<=32:=by
      cases i with
      |zero=>simp[Kdf.sZ]
      |succ j=>rw[Kdf.zO];exact Nat.le_refl _
     have xdN:∀x:AV,List.replicate 3 x=[x,x,x]:=fun _=>rfl;have hw9:=G8.dV;have LJ:=W5 (UInt8.ofNat (i+1));have EX:UInt8.ofNat (i+1)+1=UInt8.ofNat (i+1+1):=by
      rw[<-UInt8.toNat_inj,UInt8.toNat_add,UInt8.toNat_ofNat',UInt8.toNat_ofNat'];simp
     rw[EX] at LJ;have zZ:=tK (Γ:=Γ) jg hG ei [Kdf.sZ ei info i,info,[UInt8.ofNat (i+1)]] .new (by omega) (by simp) (by simp only[List.flatten_cons,List.flatten_nil,List.append_nil,List.length_append,List.length_cons,List.length_nil];omega) s2;rw[show[Kdf.sZ ei info i,info,[UInt8.ofNat (i+1)]].flatten=Kdf.sZ ei info i++info++[UInt8.ofNat (i+1)] from by simp,<-VP] at zZ;have Un:∀r9':AV,r9'.dV (dm (Kdf.sZ ei info i) .any)->dS prog Γ 180 [.sl 1 ei.length (ei.map cU) .any,.sl 1 3 [r9',.sl 1 info.length (info.map cU) .any,.sl 1 1 [.v (.int .u8 ((UInt8.ofNat (i+1)).toNat:Int))] .new] .new] s2 (fun r s'=>iN s2 (Kdf.sZ ei info (i+1)) r s'):=fun r9' hw=>
      dS.mB (kj.dV.cons (AV.dV.refl _) (kj.dV.cons (AV.vk (kj.dV.cons hw (kj.dV.cons (AV.dV.refl _) (kj.dV.cons (AV.fc (sp:=.new)) kj.dV.nil)))) kj.dV.nil)) zZ
     have Un:=Un r9 hw9;rcases G8 with⟨_,rfl⟩|⟨t9,e9,rfl⟩;all_goals
      refine wS fun K hK=>?_;simp only[↓DN,Qa,Qb,Qc,Qd,Qe,Qf,Qg,Qh,reduceCtorEq,↓reduceIte,Na,Nb,Nc,Nk,Nf,Ng,Nh,Za,Zb,Zc,TT,f0,f1,f10,f9,List.replicate_one,xdN];refine b6 Un ?_;intro r s3 hr;obtain⟨t3,e3,rfl⟩:=gD hr (by rw[<-List.length_pos_iff,HW];decide);have xdO:=eU.later hr.1;have Pk:=G7.of hr;rw[HW] at Pk;refine jR hK ?_;clear hK K;refine jU (Ai @f8 @HW) fun K hK=>?_;refine hJ (ds:=Kdf.sZ ei info (i+1)) xdO HW.symm rfl T.c5 T.b5 (by rw[Ax,HW];omega) ?_;intro r2 s4 h4;rw[<-Cc] at h4;obtain⟨t4,e4,rfl⟩:=gD h4 (by rw[<-List.length_pos_iff,Kdf.gU];omega);refine hK _ _ ?_;clear hK;simp only[dJ,dn,if_true,if_false];refine eX _ _ ?_;clear eX K3;refine jD (Ai @f10 @LJ) ?_;refine⟨⟨i+1,by omega,f0,f1,f2,rfl,by simpa only[dY,Nc,↓reduceIte] using Pk,by simpa only[dY,Nc,↓reduceIte] using h4⟩,?_⟩;refine Nat.lt_of_lt_of_le ?_ Yl;simp only[dY,Nc,↓reduceIte,Kdf.gU];omega
    rcases eU.2 with⟨LK,rfl⟩|⟨t,e,_,_,rfl⟩
    ·have lu:32*i=0:=(by rw[<-Ax,LK];rfl);refine jB (Ai @Yv (Ai @g2 (decide_eq_true (show((0:Nat):Int)<(m:Int) by omega)))) ?_;refine jE ?_;refine dX ?_;simp only[dJ];refine qW _ ?_ ?_ ?_ ?_ ?_ ?_
     ·simp only[dY,g0,Nc,↓reduceIte]
     ·simp only[dY,g1,Nc,↓reduceIte]
     ·simp only[dY,g2,Nc,↓reduceIte]
     ·simp only[dY,g10,Nc,↓reduceIte]
     ·simp only[dY,Yv,Nc,↓reduceIte]
     ·simp only[dY,hr9,Nc,↓reduceIte]
    ·refine jB (Ai @Yv (Ai @g2 (Ai @Ax (decide_eq_true (show((32*i:Nat):Int)<(m:Int) by omega))))) ?_;refine jE ?_;refine dX ?_;simp only[dJ];refine qW _ ?_ ?_ ?_ ?_ ?_ ?_
     ·simp only[dY,g0,Nc,↓reduceIte]
     ·simp only[dY,g1,Nc,↓reduceIte]
     ·simp only[dY,g2,Nc,↓reduceIte]
     ·simp only[dY,g10,Nc,↓reduceIte]
     ·simp only[dY,Yv,Ax,Nc,↓reduceIte]
     ·simp only[dY,hr9,Nc,↓reduceIte]
   ·obtain rfl:i=Kdf.rounds m:=(by omega);have hle:=Kdf.Ba m;have hs:=eU.1;have zZ:(0:Int)<=(m:Int):=(by omega);rcases eU.2 with⟨LK,rfl⟩|⟨t,e,_,_,rfl⟩
    ·have lu:32*Kdf.rounds m=0:=(by rw[<-Ax,LK];rfl);obtain rfl:m=0:=(by omega);refine jB (Ai @Yv (Ai @g2 (decide_eq_false (show ¬((0:Nat):Int)<((0:Nat):Int) by decide)))) ?_;refine jF ?_;refine ep ?_;simp only[dJ,dn,if_true];clear eH K2;refine hK _ _ ?_;clear hK K;refine jB (Ai @Yv (Ai @g2 (show((0:Nat):Int)=0 from rfl))) ?_;refine jI ?_;refine⟨_,s,AV.gJ (AV.eh (sz:=1)) (AV.dV.refl _),hs,?_,rfl⟩;have he:Kdf.expand ei info 0=[]:=List.eq_nil_of_length_eq_zero (Kdf.ns ei info 0);rw[mR,lr,he];rfl
    ·refine jB (Ai @Yv (Ai @g2 (Ai @Ax (decide_eq_false (show ¬((32*Kdf.rounds m:Nat):Int)<(m:Int) by omega))))) ?_;refine jF ?_;refine ep ?_;simp only[dJ,dn,if_true];clear eH K2;refine hK _ _ ?_;clear hK K;refine jB (Ai @Yv (Ai @g2 (Ai @Ax (Ai @zZ (show(m:Int)<=((32*Kdf.rounds m:Nat):Int) by omega))))) ?_;refine jI ?_;refine⟨_,s,AV.gJ AV.fc (AV.dV.refl _),hs,?_,rfl⟩;rw[mR,lr,Kdf.ns,Nat.sub_zero];rfl
theorem QK(i:Nat):gq .u8 (i:Int)=((aE i).toNat:Int):=by
 rw[nh (k:=.u8) rfl,UInt8.toNat_ofNat'];simp only[aD]
theorem W6(c:UInt8):isByte (.v (.int .u8 (c.toNat:Int)))=true:=by
 have:=lG [c];simpa[cU] using this
theorem W7(c:UInt8):p8 [.v (.int .u8 (c.toNat:Int))]=⟨[c].toArray⟩:=lF [c]
theorem Cp(ei info:List UInt8)(hk:ei.length<=2^37)(hi:info.length<=2^37)(m:Nat)(hm:m<=8160)(s:AS):
  aI prog Γ 117 [.v (.string ⟨ei.toArray⟩),.v (.string ⟨info.toArray⟩),.v (.int .i64 m)] s (.v (.string ⟨(Kdf.expand ei info m).toArray⟩)):=by
 refine xH func117 ntmps117 results117 ?_;have hmr:32*Kdf.rounds m<=8191:=(by unfold Kdf.rounds;omega);refine UL fun K hK=>?_;refine dU (fun E s1=>∃i:Nat,i<=Kdf.rounds m∧E 0=.v (.string ⟨ei.toArray⟩)∧E 1=.v (.string ⟨info.toArray⟩)∧E 2=.v (.int .i64 m)∧E 7=.v (.string ⟨(Kdf.sZ ei info i).toArray⟩)∧E 8=.v (.string ⟨(Kdf.row ei info i).toArray⟩)∧E 9=.v (.int .i64 ((i+1:Nat):Int))∧s1=s)
  (fun E _=>match E 9 with |.v (.int _ x)=>300-x.toNat|_=>0) ?_ ?_
 ·exact⟨0,az _,by simp only[dY,eV,Nc,↓reduceIte,bm,a8],by simp only[dY,eV,Nc,↓reduceIte,bm,a8],by simp only[dY,eV,Nc,↓reduceIte,bm,a8],rfl,rfl,rfl,rfl⟩
 ·rintro E2 s2 ⟨i,hir,g0,g1,g2,g7,g8,g9,rfl⟩ -
  refine wK fun K2 eH=>?_;have Ax:=Kdf.gU ei info i;have xav:=Kdf.due m i;by_cases et:i<Kdf.rounds m
  ·have fB:32*i<m:=xav.2 et;have HW:=Kdf.zO ei info i;have VP:Kdf.sZ ei info (i+1)=Mac.tag ei (Kdf.sZ ei info i++info++[aE (i+1)]):=rfl;have Cc:Kdf.row ei info (i+1)=Kdf.row ei info i++Kdf.sZ ei info (i+1):=rfl;have xhy:(Kdf.sZ ei info i).length<=32:=by
    cases i with
    |zero=>simp[Kdf.sZ]
    |succ j=>rw[Kdf.zO];exact ax _
   refine jB (Ai @g2 (Ai @g8 (Ai @gK (Ai @Ax (dT (show((32*i:Nat):Int)<(m:Int) by omega)))))) ?_;refine ue ?_;refine eH _ _<|nF fun K3 eX=>?_;refine wS fun K hK=>?_;simp only[↓DN,Qa,Qb,Qc,Qd,Qe,Qf,Qg,Qh,seval,TT,g0,g1,g7,g9,QK,bO,W6,W7,eS (show(Kdf.sZ ei info i).length+info.length<2^62 by omega),eS (show(Kdf.sZ ei info i).length+info.length+1<2^62 by omega)];refine b6 (tI ei (Kdf.sZ ei info i++(info++[aE (i+1)])) oM (by simp only[ai,aW,aV];omega) s2) ?_;rintro r s3 ⟨rfl,rfl⟩;rw[<-aZ,<-VP];refine jR hK ?_;clear hK K;refine jU (Ai @g8 (eS (show(Kdf.row ei info i).length+(Kdf.sZ ei info (i+1)).length<2^62 by omega))) fun K hK=>?_;rw[<-Cc];refine hK _ _ ?_;clear hK;simp only[dJ,dn,if_true,if_false];refine eX _ _<|jD (Ai @g9 (fy (i+1) oM)) ?_;refine⟨⟨i+1,oM,g0,g1,g2,rfl,rfl,rfl,rfl⟩,?_⟩;simp only[g9,dY,↓reduceIte];omega
  ·obtain rfl:i=Kdf.rounds m:=oM;have hle:=Kdf.Ba m;have zZ:(0:Int)<=(m:Int):=oM;refine jB (Ai @g2 (Ai @g8 (Ai @gK (Ai @Ax (dF (show ¬((32*Kdf.rounds m:Nat):Int)<(m:Int) by omega)))))) ?_;refine sI ?_;simp only[dJ,dn,if_true];refine hK _ _<|jB (Ai @g2 (Ai @g8 (Ai @gK (Ai @Ax (Ai @zZ (show(m:Int)<=((32*Kdf.rounds m:Nat):Int) by omega)))))) ?_;exact jJ
theorem px(jg:Γ 0=jZ Sha.H0)(hG:Γ 1=Sha.K.map wV)(ei l c:List UInt8)(n:Int)(hs:ei.length<=2^36)(hl:l.length<=2^36)(hc:c.length<=2^36)(hn: -9223372036854775808<=n∧n<=9223372036854775807)(s:AS):
  aI prog Γ 102 [dm ei .any,.v (.string ⟨l.toArray⟩),dm c .any,.v (.int .i64 n)] s (.ka [dm (Kdf.label ei l c n) .any,.v (.bool (Kdf.fits l c n))]):=by
 refine xH func102 ntmps102 results102 ?_;have vP:(Kdf.Jl++l).length=4+l.length:=(by simp[Kdf.Jl];omega);refine jA ?_;refine jQ fun K hK=>?_;refine b6 (v8 s) ?_;rintro r s1 ⟨p,rfl,h1⟩;refine jR hK ?_;clear hK K;refine jQ fun K hK=>?_;refine b6 (Ix s s1 p _ n hn sM h1) ?_;rintro r s2 ⟨rfl,h2⟩;have CM:=kG 2 n ([],false);generalize xhA:eP 2 n ([],false)=st2 at *
 simp only[aV] at CM;refine jR hK ?_;clear hK K;refine jS (eS (show 4+l.length<2^62 by omega)) fun K hK=>?_;refine b6 (lY s s2 p st2 _ (Kdf.Jl++l) (Fg.of (by rw[vP];omega) rfl) (by rw[vP];omega) h2) ?_;rintro r s3 ⟨rfl,h3⟩;have Pk:=Kdf.pq 1 (Kdf.Jl++l) st2;generalize xhB:iM 1 (Kdf.Jl++l) st2=st3 at *
 rw[vP] at Pk;refine jR hK ?_;clear hK K;refine jQ fun K hK=>?_;refine b6 (FK s s3 p st3 _ c (Fg.any c) oM h3) ?_;rintro r s4 ⟨rfl,h4⟩;have hl4:=Kdf.pq 2 c st3;have Sw:iM 2 c st3=Kdf.pen l c n:=(by rw[Kdf.pen,xhA,xhB]);rw[Sw] at h4 hl4;refine jR hK ?_;clear hK K;refine jQ fun K hK=>?_;refine b6 (nY s s4 p _ oM h4) ?_;rintro r s5 ⟨rfl,rfl⟩;by_cases kX:0<=n∧n<=65535∧l.length<=251∧c.length<=65535
 ·obtain⟨q0,q1,q2,q3⟩:=kX;have hp:=Kdf.TR l c n q0 q1 q2 q3;have hf:Kdf.fits l c n=Kdf.ok n:=by
   simp only[Kdf.fits,Kdf.ok,dT q2,dT q3,Bool.true_and]
  have vy:Kdf.label ei l c n=Kdf.get ei (Kdf.text l c n.toNat) n:=by
   rw[Kdf.label,Kdf.get,hf]
  have nD:(Kdf.text l c n.toNat).length<=2^37:=by
   rw[hp] at hl4;simp only at hl4;omega
  rw[hp];refine jV @al hK ?_;clear hK K;refine Q3 fun K hK=>?_;refine hK _ _ ?_;clear hK K;refine jK (IV jg hG ei (Kdf.text l c n.toNat) oM nD n s5) ?_;rintro s6 rfl;refine jI ?_;rw[vy,hf];exact⟨_,s,AV.dV.refl _,h4.le,rfl,rfl⟩
 ·have hp:=Kdf.WM l c n kX;have hf:Kdf.fits l c n=false:=by
   cases hf:Kdf.fits l c n with
   |false=>rfl
   |true=>
    simp only[Kdf.fits,au,decide_eq_true_eq] at hf;exact absurd ⟨hf.1.2,oM,hf.1.1.1,hf.1.1.2⟩ kX
  have vy:Kdf.label ei l c n=[]:=(by rw[Kdf.label,hf];rfl);rw[hp,if_pos rfl];refine jR hK ?_;refine xKy fun K hK=>?_;rw[vy,hf];exact⟨_,s,AV.gJ AV.eh (AV.dV.refl _),h4.le,rfl,rfl⟩
theorem lS(ei l c:List UInt8)(n:Int)(hs:ei.length<=2^36)(hf:Kdf.fits l c n=true)(s:AS):
  aI prog Γ 57 [.v (.string ⟨ei.toArray⟩),.v (.string ⟨l.toArray⟩),.v (.string ⟨c.toArray⟩),.v (.int .i64 n)] s (.v (.string ⟨(Kdf.label ei l c n).toArray⟩)):=by
 refine xH func57 ntmps57 results57 ?_;have vy:Kdf.label ei l c n=Kdf.expand ei (Kdf.text l c n.toNat) n.toNat:=(by rw[Kdf.label,hf];rfl);simp only[Kdf.fits,au,decide_eq_true_eq] at hf;obtain⟨⟨⟨q1,q2⟩,q3⟩,q4⟩:=hf;obtain⟨m,rfl⟩:∃m:Nat,n=(m:Int):=⟨n.toNat,oM⟩;rw[vy,Int.toNat_natCast];have hu:gq .u64 (m:Int)=(m:Int):=yD oM;have vP:(Kdf.Jl++l).length=4+l.length:=(by simp[Kdf.Jl];omega);have HW:∀k n,(be k n).length=k:=ga;refine jA ?_;refine jS @hu fun K hK=>?_;refine b6 (fU m 2 oM oM s) ?_;rintro r s1 ⟨rfl,rfl⟩;refine jN (eS (show 4+l.length<2^62 by omega)) ?_;refine b6 (ln (Kdf.Jl++l) 1 (by rw[vP];omega) oM s1) ?_;rintro r s2 ⟨rfl,rfl⟩;have hm4:Kdf.Jl.length=4:=rfl;refine jN (Ai @hm4 (Ai @ga (eS (show 2+(1+(4+l.length))<2^62 by omega)))) ?_;refine b6 (ln c 2 oM oM s2) ?_;rintro r s3 ⟨rfl,rfl⟩;refine jN (Ai @hm4 (Ai @ga (eS (show 2+(1+(4+l.length))+(2+c.length)<2^62 by omega)))) ?_;have htx:be 2 m++(be 1 (4+l.length)++(Kdf.Jl++(l++(be 2 c.length++c))))=Kdf.text l c m:=by
  simp only[Kdf.text,vP,aZ]
 have nD:(Kdf.text l c m).length<=2^37:=by
  rw[<-htx];simp only[ai,ga,hm4];omega
 rw[htx];refine b6 (Cp ei (Kdf.text l c m) oM nD m oM s3) ?_;rintro r s4 ⟨rfl,rfl⟩;refine jR hK ?_;exact jJ
theorem xaw(n:Nat):(if(251:Int)<(n:Int) then(251:Int) else(n:Int))=((min n 251:Nat):Int):=by
 split <;>omega
theorem Uo(l:List UInt8):l.take (min l.length 251)=l.take 251:=by
 rcases Nat.le_total l.length 251 with h|h
 ·rw[cR h,cw,ad h]
 ·rw[Nat.min_eq_right h]
theorem BI(l:List UInt8):Kdf.fits (l.take 251) [] 32=true:=by
 simp only[Kdf.fits,au,decide_eq_true_eq,aS,aV];refine⟨⟨⟨oM,dM⟩,dM⟩,dM⟩
theorem qm(jg:Γ 0=jZ Sha.H0)(hG:Γ 1=Sha.K.map wV)(ei l:List UInt8)(hs:ei.length<=2^36)(hl:l.length<=2^36)(s:AS):
  aI prog Γ 42 [dm ei .any,.v (.string ⟨l.toArray⟩)] s (dm (Kdf.derive ei l) .any):=by
 refine xH func42 ntmps42 results42 ?_;have hm:=xaw l.length;have zZ:(0:Int)<=((min l.length 251:Nat):Int):=oM;have vP:((min l.length 251:Nat):Int)<=(l.length:Int):=oM;refine jA ?_;refine jS (Ai @gK (Ai @hm (Ai @zZ (Ai @vP @Uo)))) fun K hK=>?_;have vy:=px (Γ:=Γ) jg hG ei (l.take 251) [] 32 hs (by rw[aS];omega) sM dM s;refine b6 (dS.mB (kj.dV.cons (AV.dV.refl _) (kj.dV.cons (AV.dV.refl _) (kj.dV.cons AV.eh (kj.dV.cons (AV.dV.refl _) kj.dV.nil)))) vy) ?_;rintro r s1 ⟨rfl,rfl⟩;refine jR hK ?_;refine jA ?_;exact jJ
theorem pS(ei l:List UInt8)(hs:ei.length<=2^36)(hl:l.length<=2^36)(s:AS):
  aI prog Γ 29 [.v (.string ⟨ei.toArray⟩),.v (.string ⟨l.toArray⟩)] s (.v (.string ⟨(Kdf.derive ei l).toArray⟩)):=by
 refine xH func29 ntmps29 results29 ?_;refine yd fun K hK=>?_;have qW:∀E1:Env,E1 0=.v (.string ⟨ei.toArray⟩)->E1 1=.v (.string ⟨(l.take 251).toArray⟩)->K E1 s:=by
  intro E1 e0 e1;refine hK _ _ ?_;have vy:=lS (Γ:=Γ) ei (l.take 251) [] 32 hs (BI l) s;generalize Ka:l.take 251=l' at *
  have hd:Kdf.label ei l' [] 32=Kdf.derive ei l:=(by rw[Kdf.derive,Ka]);rw[hd] at vy;refine jS (Ai @e0 @e1) fun K hK=>?_;refine b6 vy ?_;rintro r s1 ⟨rfl,rfl⟩;refine jR hK ?_;exact jJ
 by_cases GZ:251<l.length
 ·refine jB (Ai @gK (dT (show(251:Int)<(l.length:Int) by omega))) ?_;refine jE<|jD (Ai (show(0:Int)<=251 from dM) (show(251:Int)<=(l.length:Int) by omega)) ?_;refine qW _ ?_ ?_
  ·simp only[dY,eV,Nc,↓reduceIte,bm,a8]
  ·simp only[dY,↓reduceIte]
 ·refine jB (Ai @gK (dF (show ¬(251:Int)<(l.length:Int) by omega))) ?_;refine gW ?_;simp only[dJ];refine qW _ ?_ ?_
  ·simp only[dY,eV,Nc,↓reduceIte,bm,a8]
  ·rw[ad oM];simp only[dY,eV,Nc,↓reduceIte,bm,a8]
abbrev bV(x:UInt8):AV:=.v (.int .u8 (x.toNat:Int))
theorem O3(x:UInt8):x.toNat<2^IntKind.u8.bits:=by simpa[aD] using x.toNat_lt
theorem sO(a b:UInt8):BX .u8 (a.toNat:Int) (b.toNat:Int)=((a ^^^ b).toNat:Int):=by
 rw[Mj (k:=.u8) rfl a.toNat b.toNat (O3 a) (O3 b),UInt8.toNat_xor]
theorem Up(a b:UInt8):rG .u8 (a.toNat:Int) (b.toNat:Int)=((a &&& b).toNat:Int):=by
 rw[xu (k:=.u8) rfl a.toNat b.toNat (O3 a) (O3 b),UInt8.toNat_and]
theorem W8(b:UInt8):rG .u8 27 (b.toNat:Int)=((((27:UInt8) &&& b).toNat:Nat):Int):=Up 27 b
theorem xax(b:UInt8):rG .u8 (b.toNat:Int) 1=(((b &&& (1:UInt8)).toNat:Nat):Int):=Up b 1
theorem W9(b:UInt8):BX .u8 99 (b.toNat:Int)=((((99:UInt8) ^^^ b).toNat:Nat):Int):=sO 99 b
theorem Yw(a:UInt8):Jq .u8 (a.toNat:Int)=((((0:UInt8)-a).toNat:Nat):Int):=by
 have:=a.toNat_lt;rw[Jq,pM rfl,UInt8.toNat_sub];simp only[aD];rw[show(0:UInt8).toNat=0 from rfl];omega
theorem xay(a:UInt8):oo .u8 (a.toNat:Int) 1=(((a <<< (1:UInt8)).toNat:Nat):Int):=by
 have:=xv (k:=.u8) rfl a.toNat 1;rw[show(1:Int)=((1:Nat):Int) from rfl,this,UInt8.toNat_shiftLeft];simp[aD,Nat.shiftLeft_eq]
theorem xaz(a:UInt8):kE .u8 (a.toNat:Int) 1=(((a >>> (1:UInt8)).toNat:Nat):Int):=by
 have:=nq (k:=.u8) a.toNat 1;rw[show(1:Int)=((1:Nat):Int) from rfl,this,UInt8.toNat_shiftRight];simp[aD,dG]
theorem xaA(a:UInt8):kE .u8 (a.toNat:Int) 7=(((a >>> (7:UInt8)).toNat:Nat):Int):=by
 have:=nq (k:=.u8) a.toNat 7;rw[show(7:Int)=((7:Nat):Int) from rfl,this,UInt8.toNat_shiftRight];simp[aD,dG]
theorem G9(b:UInt8):(b >>> (1:UInt8)).toNat=b.toNat/2:=by
 rw[UInt8.toNat_shiftRight];simp[dG]
theorem qx(a:UInt8)(s:AS):aI prog Γ 252 [bV a] s (bV (Aes.OS a)):=by
 refine xH func252 ntmps252 results252 ?_;refine jA ?_;refine jB (Ai @xay (Ai @xaA (Ai @Yw (Ai @W8 @sO)))) ?_;exact jJ
theorem zV(x y:UInt8)(s:AS):aI prog Γ 257 [bV x,bV y] s (bV (Aes.gm 8 0 x y)):=by
 refine xH func257 ntmps257 results257 ?_;refine xKo fun K hK=>?_;refine dH<|dU (fun E s1=>∃(f:Nat)(o a b:UInt8),E 5=bV o∧E 0=bV a∧E 1=bV b∧b.toNat<2^f∧Aes.gm f o a b=Aes.gm 8 0 x y∧s1=s)
  (fun E _=>match E 1 with |.v (.int _ i)=>i.toNat|_=>0) ?_ ?_
 ·exact⟨8,0,x,y,by simp[dY],by simp[dY,eV],by simp[dY,eV],y.toNat_lt,rfl,rfl⟩
 ·rintro E1 s1 ⟨f,o,a,b,h5,h0,h1,hb,hinv,rfl⟩ -
  refine wK fun K2 eH=>?_;by_cases hb0:b.toNat=0
  ·refine jB (Ai @h1 (dF (show ¬(0:Int)<(b.toNat:Int) by omega))) ?_;refine sI ?_;simp only[dJ,dn,if_true];refine hK _ _ ?_;clear hK eH K K2;refine jB @h5 ?_;refine jI ?_;refine jW ⟨?_,rfl⟩;have e:b=0:=UInt8.toNat_inj.1 (by rw[hb0];rfl);rw[<-hinv,e,Aes.OT]
  ·refine jB (Ai @h1 (dT (show(0:Int)<(b.toNat:Int) by omega))) ?_;refine ue ?_;refine eH _ _<|nF fun K3 eX=>?_;refine jB (Ai @h5 (Ai @h0 (Ai @h1 (Ai @xax (Ai @Yw (Ai @Up @sO)))))) ?_;refine jU @h0 fun K hK=>?_;refine b6 (qx a _) ?_;rintro r s' ⟨rfl,rfl⟩;refine jR hK ?_;simp only[dn,dJ,if_true,if_false];refine eX _ _ ?_;obtain⟨g,rfl⟩:∃g,f=g+1:=⟨f-1,by
    cases f with
    |zero=>simp at hb;omega
    |succ f=>simp⟩
   refine jD (Ai @h1 @xaz) ?_;refine⟨⟨g,o ^^^ (a &&& ((0:UInt8)-(b &&& 1))),Aes.OS a,b >>> 1,rfl,rfl,rfl,?_,hinv,rfl⟩,?_⟩
   ·rw[G9];rw[b8] at hb;omega
   ·simp only[h1,dY,↓reduceIte,G9];omega
theorem Uq:∀n:Nat,n<256->rG .i64 (n:Int) 1=((n%2:Nat):Int):=by decide+kernel
theorem xaB(n:Nat):kE .i64 (n:Int) 1=((n/2:Nat):Int):=by
 have:=nq (k:=.i64) n 1;rw[show(1:Int)=((1:Nat):Int) from rfl,this];simp[aD]
theorem IW:(((1:Nat):Int)==1)=true:=rfl
theorem Be:(((0:Nat):Int)==1)=false:=rfl
theorem F3(x:UInt8)(s:AS):aI prog Γ 255 [bV x] s (bV (Aes.inv x)):=by
 refine xH func255 ntmps255 results255 ?_;refine UL fun K hK=>?_;refine dU (fun E s1=>∃(f:Nat)(o a:UInt8)(n:Nat),E 3=bV o∧E 0=bV a∧E 4=.v (.int .i64 n)∧n<2^f∧n<256∧Aes.pw f o a n=Aes.pw 8 1 x 254∧s1=s)
  (fun E _=>match E 4 with |.v (.int _ i)=>i.toNat|_=>0) ?_ ?_
 ·exact⟨8,1,x,254,rfl,by simp only[dY,eV,Nc,↓reduceIte];rfl,rfl,dM,dM,rfl,rfl⟩
 ·rintro E1 s1 ⟨f,o,a,n,h3,h0,h4,hn,hn2,hinv,rfl⟩ -
  refine wK fun K2 eH=>?_;by_cases hn0:n=0
  ·refine jB (Ai @h4 (dF (show ¬(0:Int)<(n:Int) by omega))) ?_;refine sI ?_;simp only[dJ,dn,if_true];refine hK _ _ ?_;clear hK eH K K2;refine jB @h3 ?_;refine jI ?_;refine jW ⟨?_,rfl⟩;rw[Aes.inv,<-hinv,hn0,Aes.OU]
  ·refine jB (Ai @h4 (dT (show(0:Int)<(n:Int) by omega))) ?_;refine ue ?_;refine eH _ _<|nF fun K3 eX=>?_;refine wK fun K4 jm=>?_;obtain⟨g,rfl⟩:∃g,f=g+1:=⟨f-1,by
    cases f with
    |zero=>simp at hn;omega
    |succ f=>simp⟩
   have gN:Aes.pw (g+1) o a n=Aes.pw g (if n%2=1 then Aes.gm 8 0 o a else o) (Aes.gm 8 0 a a) (n/2):=rfl;have qW:∀(E2:Env)(o2:UInt8),E2 3=bV o2->E2 0=bV a->E2 4=.v (.int .i64 n)->Aes.pw g o2 (Aes.gm 8 0 a a) (n/2)=Aes.pw 8 1 x 254->K4 E2 s1:=by
    intro E2 o2 e3 e0 e4 sP;refine jm _ _<|jU @e0 fun K hK=>?_;refine b6 (zV a a s1) ?_;rintro r s' ⟨rfl,rfl⟩;refine jR hK ?_;simp only[dn,dJ,if_true,if_false];refine eX _ _<|jD (Ai @e4 @xaB) ?_;refine⟨⟨g,o2,Aes.gm 8 0 a a,n/2,e3,rfl,rfl,by rw[b8] at hn;omega,oM,sP,rfl⟩,?_⟩;simp only[h4,dY,↓reduceIte];omega
   by_cases vw:n%2=1
   ·refine jB (Ai @h4 (Ai (Uq n hn2) (Ai @vw @IW))) ?_;refine jE<|jU (Ai @h3 @h0) fun K hK=>?_;refine b6 (zV o a s1) ?_;rintro r s' ⟨rfl,rfl⟩;refine jR hK ?_;refine qW _ (Aes.gm 8 0 o a) rfl h0 h4 ?_;rw[<-hinv,gN,if_pos vw]
   ·have vx:n%2=0:=oM;refine jB (Ai @h4 (Ai (Uq n hn2) (Ai @vx @Be))) ?_;refine gW ?_;refine qW _ o h3 h0 h4 ?_;rw[<-hinv,gN,if_neg vw]
theorem N5:∀k:Nat,k<8->rG .u64 (gq .u64 (k:Int)) 7=((k:Nat):Int):=by decide+kernel
theorem Ur:∀k:Nat,k<8->gR .u64 8 ((k:Nat):Int)=((8-k:Nat):Int):=by decide+kernel
theorem Us(x:UInt8)(k:Nat)(h0:0<k)(h:k<8):L5 .u8 (oo .u8 (x.toNat:Int) ((k:Nat):Int)) (kE .u8 (x.toNat:Int) ((8-k:Nat):Int))=((Aes.rot x k).toNat:Int):=by
 have hx:=x.toNat_lt;have hd:x.toNat/2^(8-k)<256:=Nat.lt_of_le_of_lt (Nat.div_le_self _ _) hx;rw[xv rfl,nq];simp only[aD];rw[cR oM,cR oM];have e:=Ge (k:=.u8) rfl (x.toNat*2^k%2^8) (x.toNat/2^(8-k)) (Nat.mod_lt _ dM) hd;rw[e];rw[Aes.rot,UInt8.toNat_or,UInt8.toNat_ofNat',UInt8.toNat_ofNat',Nat.mod_eq_of_lt hd]
theorem Lr(x:UInt8)(k:Nat)(h0:0<k)(h:k<8)(s:AS):
  aI prog Γ 256 [bV x,.v (.int .i64 (k:Int))] s (bV (Aes.rot x k)):=by
 refine xH func256 ntmps256 results256 ?_;refine jA ?_;refine jB (N5 k h) ?_;refine jB (Ai @iU (Ai (Ur k h) (Us x k h0 h))) ?_;refine jI ?_;exact⟨_,s,AV.dV.refl _,AS.le.refl s,rfl,rfl⟩
theorem IX(x:UInt8)(s:AS):aI prog Γ 251 [bV x] s (bV (Aes.box x)):=by
 refine xH func251 ntmps251 results251 ?_;have xhE:Aes.box x=Aes.N3 (Aes.inv x) 4:=rfl;have hi:=fun s=>F3 (Γ:=Γ) x s;rw[xhE];generalize Aes.inv x=y at *
 refine jA ?_;refine jK (hi _) ?_;rintro s1 rfl;refine jB @W9 ?_;refine Jc fun K hK=>?_;refine dU (fun E s2=>∃i:Nat,i<=4∧E 3=bV y∧E 4=bV (Aes.N3 y i)∧E 5=.v (.int .i64 ((i+1:Nat):Int))∧s2=s1)
  (fun E _=>match E 5 with |.v (.int _ i)=>5-i.toNat|_=>0) ?_ ?_
 ·exact⟨0,oM,rfl,rfl,rfl,rfl⟩
 ·rintro E1 s2 ⟨i,et,h3,h4,h5,rfl⟩ -
  refine wK fun K2 eH=>?_;by_cases hn:i<4
  ·refine jB (Ai @h5 (dT (show((i+1:Nat):Int)<5 by omega))) ?_;refine ue ?_;refine eH _ _<|nF fun K3 eX=>?_;have GM:Aes.N3 y (i+1)=Aes.N3 y i ^^^ Aes.rot y (i+1):=rfl;generalize Aes.N3 y i=o at *
   refine jU (Ai @h3 (Ai @h4 @h5)) fun K hK=>?_;refine b6 (Lr y (i+1) oM oM _) ?_;rintro r s3 ⟨rfl,rfl⟩;refine jV (Ai @h3 (Ai @h4 (Ai @h5 @sO))) hK ?_;clear hK K;simp only[dn,dJ,if_true,if_false];refine eX _ _<|jD (Ai @h5 (fy (i+1) oM)) ?_;refine⟨⟨i+1,oM,h3,by simp only[dY,Nc,↓reduceIte,GM],rfl,rfl⟩,?_⟩;simp only[h5,dY,↓reduceIte];omega
  ·obtain rfl:i=4:=oM;refine jB (Ai @h5 (dF (show ¬((4+1:Nat):Int)<5 by decide))) ?_;refine sI ?_;simp only[dJ,dn,if_true];refine hK _ _<|jB @h4 ?_;exact jJ
def eM(F G:Nat->UInt8)(N i:Nat):List AV:=(aq N).map fun n=>cU (if n<i then F n else G n)
theorem iC(F G:Nat->UInt8)(N i:Nat):(eM F G N i).length=N:=by simp[eM]
theorem jo(F G:Nat->UInt8)(N i:Nat)(x:UInt8)(hx:x=F i):(eM F G N i).set i (bV x)=eM F G N (i+1):=by
 subst hx;apply bg;intro k;by_cases e:k=i
 ·subst e;by_cases hk:k<N
  ·rw[cK (by rw[iC];exact hk)];simp[eM,hk,cU]
  ·rw[aU (by simp[eM];omega),aU (by simp[eM];omega)]
 ·rw[List.getElem?_set_ne oM];by_cases hk:k<N
  ·simp only[eM,aL,List.getElem?_range hk,cj];by_cases h2:k<i
   ·rw[if_pos h2,if_pos oM]
   ·rw[if_neg h2,if_neg oM]
  ·rw[aU (by simp[eM];omega),aU (by simp[eM];omega)]
theorem lR(F G:Nat->UInt8)(N:Nat):eM F G N N=((aq N).map F).map cU:=by
 rw[eM,List.map_map];apply bx;intro n hn;rw[if_pos (br.1 hn)];rfl
theorem xJ(F G:Nat->UInt8)(N:Nat):eM F G N 0=((aq N).map G).map cU:=by
 rw[eM,List.map_map];apply bx;intro n hn;rw[if_neg oM];rfl
theorem om(F:Nat->UInt8)(N:Nat):eM F (fun _=>0) N 0=af N (bV 0):=by
 rw[xJ];apply List.ext_getElem
 ·simp
 ·intro k h1 h2;simp[cU]
theorem oO{l:List UInt8}{N:Nat}(h:l.length=N):(aq N).map (fun n=>l.getD n 0)=l:=by
 apply List.ext_getElem
 ·simp[h]
 ·intro k h1 h2;simp[ag h2]
theorem tJ(F G:Nat->UInt8)(N i j:Nat)(hj:j<N):aJ j (eM F G N i)=cU (if j<i then F j else G j)::aJ (j+1) (eM F G N i):=by
 apply drop_cons;simp[eM,hj]
theorem iG{l:List UInt8}(j:Nat)(h:j<l.length):aJ j (l.map cU)=cU (l.getD j 0)::aJ (j+1) (l.map cU):=by
 apply drop_cons;simp[ag h]
theorem gy(l:List UInt8):(l.map cU).all AV.one=true:=Bp l
theorem MX(n:Nat):gq .u8 (n:Int)=((aE n).toNat:Int):=by
 have:=va n;simp only[cU,AV.v.injEq,Value.int.injEq,true_and] at this;exact this.symm
theorem xaC:eO prog 252=some (af 256 (bV 0)):=kM
theorem z157:eO prog 236=some (af 16 (bV 0)):=kM
theorem Ls:(aq 256).map (fun n=>Aes.sb.getD n 0)=Aes.sb:=oO Aes.oU
theorem Lt(s:AS):aI prog Γ 239 [] s (.agg (Aes.sb.map cU)):=by
 refine xH func239 ntmps239 results239 ?_;refine jS @xaC fun K hK=>?_;intro o0 ho0;refine hK _ _ ?_;clear hK K;refine jS @xaC fun K hK=>?_;intro o1 yp;obtain⟨OD,xhF⟩:=AS.km yp;refine hK _ _ ?_;clear hK K;refine Jc fun K hK=>?_;rw[<-om (fun n=>Aes.sb.getD n 0) 256];have zX:=iC (fun n=>Aes.sb.getD n 0) (fun _=>0) 256 0;refine dU (fun E s1=>∃i:Nat,i<=256∧E 0=.ptr o0 0∧E 1=.ptr o1 0∧E 3=.v (.int .i64 i)∧s1=(s.set o0 (eM (fun n=>Aes.sb.getD n 0) (fun _=>0) 256 0)).set o1 (eM (fun n=>Aes.sb.getD n 0) (fun _=>0) 256 i))
  (fun E _=>match E 3 with |.v (.int _ i)=>256-i.toNat|_=>0) ?_ ?_
 ·exact⟨0,oM,rfl,rfl,rfl,rfl⟩
 ·rintro E1 s1 ⟨i,hi,e0,e1,e3,rfl⟩ -
  by_cases et:i<256
  ·have kR:(i:Int)<256:=oM;have LN:(i:Int)<((256:Nat):Int):=oM;have lu:(0:Int)<=(i:Int):=oM;refine jB (Ai @e3 (dT kR)) ?_;refine Ja fun K2 eH=>?_;refine eH _ _<|nF fun K3 eX=>?_;refine jB @e3 ?_;have fO:=jo (fun n=>Aes.sb.getD n 0) (fun _=>0) 256 i (Aes.box (aE i)) (Aes.xaf i et);have hlen:=iC (fun n=>Aes.sb.getD n 0) (fun _=>0) 256 i;generalize eM (fun n=>Aes.sb.getD n 0) (fun _=>0) 256 i=R at *
   generalize DG:eM (fun n=>Aes.sb.getD n 0) (fun _=>0) 256 (i+1)=R' at *
   refine jU (Ai @e1 @MX) fun K hK=>?_;refine b6 (IX (aE i) _) ?_;rintro r s2 ⟨rfl,rfl⟩;refine jN (Ai @e1 (Ai @lu (Ai @kR (Ai @LN (Ai @fO @hlen))))) ?_;refine⟨oM,hK _ _ ?_⟩;clear hK K;simp only[dn,dJ,if_true,if_false];refine eX _ _<|jD (Ai @e3 (fy i oM)) ?_;refine⟨⟨i+1,oM,e0,e1,rfl,by rw[DG]⟩,?_⟩;simp only[e3,dY,↓reduceIte];omega
  ·have kR:¬(i:Int)<256:=oM;obtain rfl:i=256:=oM;refine jB (Ai @e3 (dF kR)) ?_;refine Jb fun K2 eH=>?_;simp only[dJ,dn,if_true];refine hK _ _ ?_;rw[lR,Ls];have AB:(Aes.sb.map cU).length=256:=(by rw[ar,Aes.oU]);have fG:=gy Aes.sb;have ir:aG 256 (Aes.sb.map cU)=Aes.sb.map cU:=ad oM;generalize Aes.sb.map cU=X at *
   generalize eM (fun n=>Aes.sb.getD n 0) (fun _=>0) 256 0=R0 at *
   refine jS (Ai @e0 (Ai @e1 (Ai @AB (Ai @ir (Ai @fG (Ai @OD @OD.symm)))))) fun K hK=>?_;rw[fj R0 X oM];refine⟨oM,hK _ _ ?_⟩;refine eF ?_;refine kJ (v:=.agg X) (o:=o0) (off:=0) e0 (AS.bG _ _ _) (by rw[T.xbK];decide) (by simp only[↓DN,Qa,Qb,Qc,Qd,Qe,Qf,Qg,Qh,seval,TT,AB,ir]) ?_;exact⟨_,s,AV.dV.refl _,AS.dW (AS.dW (AS.dW (AS.le.refl s) ho0 _) xhF _) ho0 _,rfl,rfl⟩
theorem QL(a:Nat):mG (a:Int) 4=((a%4:Nat):Int):=mI a 4
theorem add_const(a c:Nat)(h:a<1000)(hc:c<1000):iY .i64 (a:Int) ((c:Nat):Int)=((a+c:Nat):Int):=by
 rw[kh oM];rfl
theorem Ut(a:Nat)(h:a<1000):iY .i64 (a:Int) 1=((a+1:Nat):Int):=add_const a 1 h oM
theorem xaD(a:Nat)(h:a<1000):iY .i64 (a:Int) 2=((a+2:Nat):Int):=add_const a 2 h oM
theorem xaE(a:Nat)(h:a<1000):iY .i64 (a:Int) 3=((a+3:Nat):Int):=add_const a 3 h oM
theorem qG{s:AS}{o p q:Nat}{x y:List AV}(h:(if q=p then some x else if q=o then some y else s.dD q)=none):q≠p∧q≠o∧s.dD q=none:=by
 by_cases h1:q=p
 ·rw[if_pos h1] at h;cases h
 ·rw[if_neg h1] at h;by_cases h2:q=o
  ·rw[if_pos h2] at h;cases h
  ·rw[if_neg h2] at h;exact⟨h1,h2,h⟩
theorem zW(b k:List UInt8)(hb:b.length=16)(hk:k.length=16)(s:AS):
  dS prog Γ 241 [.agg (b.map cU),.agg (k.map cU)] s (fun r s'=>r=.agg ((Aes.add b k).map cU)∧s'=s):=by
 refine fm func241 rfl ntmps241 results241 (by simp) ?_
 have hF:(List.range 16).map (fun n=>b.getD n 0 ^^^ k.getD n 0)=Aes.add b k:=rfl
 have hR0:eM (fun n=>b.getD n 0 ^^^ k.getD n 0) (fun n=>b.getD n 0) 16 0=b.map cU:=by rw[xJ,oO hb]
 have sD:(k.map cU).length=16:=by rw[List.length_map,hk]
 refine wS fun K hK=>?_
 simp only[↓DN,Qa,Qb,Qc,Qd,Qe,Qf,Qg,Qh,reduceCtorEq,↓reduceIte,Na,Nb,Nc,Nk,Nf,Ng,Nh,Za,Zb,Zc,TT,z157]
 intro o2 tj o3 FR
 obtain⟨ye,FT⟩:=AS.km FR
 intro o4 IC
 obtain⟨Xa,QB,A5⟩:=qG IC
 rw[show([AV.v (.int .u8 0),AV.v (.int .u8 0),AV.v (.int .u8 0),AV.v (.int .u8 0),AV.v (.int .u8 0),AV.v (.int .u8 0),AV.v (.int .u8 0),AV.v (.int .u8 0),AV.v (.int .u8 0),AV.v (.int .u8 0),AV.v (.int .u8 0),AV.v (.int .u8 0),AV.v (.int .u8 0),AV.v (.int .u8 0),AV.v (.int .u8 0),AV.v (.int .u8 0)]:List AV)=List.replicate 16 (bV 0) from rfl]
 refine hK _ _ ?_;clear hK K
 rw[<-hR0]
 have j2:(((s.set o2 (eM (fun n=>b.getD n 0 ^^^ k.getD n 0) (fun n=>b.getD n 0) 16 0)).set o3 (k.map cU)).set o4 (List.replicate 16 (bV 0))).dD o2=some (eM (fun n=>b.getD n 0 ^^^ k.getD n 0) (fun n=>b.getD n 0) 16 0):=by
  rw[AS.cO _ QB.symm,AS.cO _ ye.symm,AS.bG]
 have j3:(((s.set o2 (eM (fun n=>b.getD n 0 ^^^ k.getD n 0) (fun n=>b.getD n 0) 16 0)).set o3 (k.map cU)).set o4 (List.replicate 16 (bV 0))).dD o3=some (k.map cU):=by
  rw[AS.cO _ Xa.symm,AS.bG]
 have j4:(((s.set o2 (eM (fun n=>b.getD n 0 ^^^ k.getD n 0) (fun n=>b.getD n 0) 16 0)).set o3 (k.map cU)).set o4 (List.replicate 16 (bV 0))).dD o4=some (List.replicate 16 (bV 0)):=AS.bG _ _ _
 have hle:s.le (((s.set o2 (eM (fun n=>b.getD n 0 ^^^ k.getD n 0) (fun n=>b.getD n 0) 16 0)).set o3 (k.map cU)).set o4 (List.replicate 16 (bV 0))):=AS.dW (AS.dW (AS.dW (AS.le.refl s) tj _) FT _) A5 _
 generalize (((s.set o2 (eM (fun n=>b.getD n 0 ^^^ k.getD n 0) (fun n=>b.getD n 0) 16 0)).set o3 (k.map cU)).set o4 (List.replicate 16 (bV 0)))=s0 at *
 clear FR IC hR0
 have yo:(List.replicate 16 (bV 0)).length=16:=by simp
 generalize List.replicate 16 (bV 0)=Z at *
 refine wK fun K hK=>?_
 refine wS fun K hK=>?_
 simp only[↓DN,Qa,Qb,Qc,Qd,Qe,Qf,Qg,Qh,reduceCtorEq,↓reduceIte,Na,Nb,Nc,Nk,Nf,Ng,Nh,Za,Zb,Zc,TT]
 refine hK _ _ ?_;clear hK K
 refine dH ?_
 refine dU (fun E s1=>∃i:Nat,i<=16∧E 2=.ptr o2 0∧E 3=.ptr o3 0∧E 4=.ptr o4 0∧E 6=.v (.int .i64 i)∧s1.dD o2=some (eM (fun n=>b.getD n 0 ^^^ k.getD n 0) (fun n=>b.getD n 0) 16 i)∧s1.dD o3=some (k.map cU)∧s1.dD o4=some Z∧s.le s1)
  (fun E _=>match E 6 with |.v (.int _ i)=>16-i.toNat|_=>0) ?_ ?_
 ·exact⟨0,by omega,by simp only[dY,Nc,↓reduceIte],by simp only[dY,Nc,↓reduceIte],by simp only[dY,Nc,↓reduceIte],by simp only[dY,↓reduceIte];rfl,j2,j3,j4,hle⟩
 ·clear j2 j3 j4 hle
  rintro E1 s1 ⟨i,hi,e2,e3,e4,e6,j2,j3,j4,hle⟩ -
  by_cases et:i<16
  ·have kR:(i:Int)<16:=by omega
   have LN:(i:Int)<((16:Nat):Int):=by omega
   have lu:(0:Int)<=(i:Int):=by omega
   refine wS fun K hK=>?_
   simp only[↓DN,Qa,Qb,Qc,Qd,Qe,Qf,Qg,Qh,reduceCtorEq,↓reduceIte,Na,Nb,Nc,Nk,Nf,Ng,Nh,Za,Zb,Zc,TT,e6,decide_eq_true kR]
   refine hK _ _ ?_;clear hK K
   refine wK fun K2 eH=>?_
   refine wC fun X Y hX hY=>?_
   simp only[UP,DF,Nc,↓reduceIte,DB]
   refine hX ?_;clear hX hY X Y
   refine dX ?_
   refine eH _ _ ?_;clear eH K2
   refine wK fun K3 eX=>?_
   refine dH ?_
   refine wS fun K hK=>?_
   simp only[↓DN,Qa,Qb,Qc,Qd,Qe,Qf,Qg,Qh,reduceCtorEq,↓reduceIte,Na,Nb,Nc,Nk,Nf,Ng,Nh,Za,Zb,Zc,TT,e6]
   refine hK _ _ ?_;clear hK K
   have d2:=tJ (fun n=>b.getD n 0 ^^^ k.getD n 0) (fun n=>b.getD n 0) 16 i i et
   rw[if_neg (Nat.lt_irrefl i)] at d2
   have d3:=iG (l:=k) i (by omega)
   have fO:=jo (fun n=>b.getD n 0 ^^^ k.getD n 0) (fun n=>b.getD n 0) 16 i _ rfl
   have hlen:=iC (fun n=>b.getD n 0 ^^^ k.getD n 0) (fun n=>b.getD n 0) 16 i
   generalize DG:eM (fun n=>b.getD n 0 ^^^ k.getD n 0) (fun n=>b.getD n 0) 16 (i+1)=R' at *
   generalize eM (fun n=>b.getD n 0 ^^^ k.getD n 0) (fun n=>b.getD n 0) 16 i=R at *
   generalize b.getD i 0=x at *
   generalize k.getD i 0=y at *
   generalize k.map cU=Y at *
   refine gl T.mixed [(o2,R),(o3,Y)] [] [2,5] [8] (by kernel_rfl) (by simp only[dZ,ec,and_true];simp[AS.set,dY,j2,j3]) ?_
   intro K hK
   simp only[↓eN,↓eD,gY,gS,eg,ej,dZ,ec,List.any_cons,List.any_nil,List.contains_cons,List.contains_nil,Nat.reduceBEq,Bool.or_false,Bool.or_true,Bool.or_self,Bool.false_or,↓DN,Qa,Qb,Qc,Qd,Qe,Qf,Qg,Qh,reduceCtorEq,↓reduceIte,Na,Nb,Nc,Nk,Nf,Ng,Nh,Za,Zb,Zc,TT,e2,e3,e6,lu,kR,LN,d2,d3,ye,ye.symm,j2,j3,cU,sO,fO,hlen,sD]
   refine⟨by omega,hK _ _ ?_⟩
   clear hK K
   simp only[dn,dJ,if_true,if_false]
   refine eX _ _ ?_;clear eX K3
   refine wE fun K hK=>?_
   simp only[↓DN,Qa,Qb,Qc,Qd,Qe,Qf,Qg,Qh,reduceCtorEq,↓reduceIte,Na,Nb,Nc,Nk,Nf,Ng,Nh,Za,Zb,Zc,TT,e6,fy i (by omega)]
   refine hK _ _ ?_;clear hK K
   refine⟨⟨i+1,by omega,by simp only[dY,e2,Nc,↓reduceIte],by simp only[dY,e3,Nc,↓reduceIte],by simp only[dY,e4,Nc,↓reduceIte],by simp only[dY,↓reduceIte],by rw[DG];exact AS.bG _ _ _,by rw[AS.cO _ ye];exact j3,by rw[AS.cO _ QB];exact j4,AS.dW hle tj _⟩,?_⟩
   simp only[e6,dY,↓reduceIte]
   omega
  ·have kR:¬(i:Int)<16:=by omega
   obtain rfl:i=16:=by omega
   refine wS fun K hK=>?_
   simp only[↓DN,Qa,Qb,Qc,Qd,Qe,Qf,Qg,Qh,reduceCtorEq,↓reduceIte,Na,Nb,Nc,Nk,Nf,Ng,Nh,Za,Zb,Zc,TT,e6,decide_eq_false kR]
   refine hK _ _ ?_;clear hK K
   refine wK fun K2 eH=>?_
   refine wC fun X Y hX hY=>?_
   simp only[UP,DF,Nc,↓reduceIte,DB]
   refine hY ?_;clear hX hY X Y
   refine ep ?_
   simp only[dJ,dn,if_true]
   clear eH K2
   refine hK _ _ ?_;clear hK K
   rw[lR,hF] at j2
   have AB:((Aes.add b k).map cU).length=16:=by rw[List.length_map,Aes.IM]
   have fG:=gy (Aes.add b k)
   have ir:List.take 16 ((Aes.add b k).map cU)=(Aes.add b k).map cU:=List.take_of_length_le (by omega)
   generalize (Aes.add b k).map cU=X at *
   refine wS fun K hK=>?_
   simp only[↓DN,Qa,Qb,Qc,Qd,Qe,Qf,Qg,Qh,reduceCtorEq,↓reduceIte,Na,Nb,Nc,Nk,Nf,Ng,Nh,Za,Zb,Zc,TT,e2,e4,j2,j4,AB,ir,fG,QB,QB.symm]
   rw[fj Z X (by omega)]
   refine⟨by omega,hK _ _ ?_⟩
   clear hK K
   refine eF ?_
   refine kJ (v:=.agg X) (o:=o4) (off:=0) (by simp only[dY,e4,Nc,↓reduceIte]) (AS.bG _ _ _) (by rw[T.VC];decide) (by simp only[↓DN,Qa,Qb,Qc,Qd,Qe,Qf,Qg,Qh,reduceCtorEq,↓reduceIte,Na,Nb,Nc,Nk,Nf,Ng,Nh,Za,Zb,Zc,TT,AB,ir]) ?_
   exact⟨_,s,AV.dV.refl _,AS.dW hle A5 _,rfl,rfl⟩
theorem qy:¬(4:Int)=0:=dM
def Cq(c:List UInt8):List UInt8:=(aq 4).map fun i=>Aes.mx (fun j=>c.getD j 0) i
theorem Uu(c:List UInt8):(Cq c).length=4:=by simp[Cq]
theorem IY(c:List UInt8)(hc:c.length=4)(s:AS):
  dS prog Γ 253 [.agg (c.map cU)] s (fun r s'=>r=.agg ((Cq c).map cU)∧s'=s):=by
 refine fm func253 rfl ntmps253 results253 (by simp) ?_;have hF:(List.range 4).map (fun i=>Aes.mx (fun j=>c.getD j 0) i)=Cq c:=rfl;have mQ:(c.map cU).length=4:=(by rw[List.length_map,hc]);have hz4:([.v (.int .u8 0),.v (.int .u8 0),.v (.int .u8 0),.v (.int .u8 0)]:List AV)=List.replicate 4 (bV 0):=rfl;refine jQ fun K hK=>?_;intro o1 yp o2 tj;obtain⟨OQ,Uv⟩:=AS.km tj;rw[hz4];refine hK _ _ ?_;clear hK K;refine jQ fun K hK=>?_;intro o3 FR;obtain⟨ye,Yx,FT⟩:=qG FR;rw[hz4];refine hK _ _ ?_;clear hK K;generalize pZ:((s.set o1 (c.map cU)).set o2 (List.replicate 4 (bV 0))).set o3 (List.replicate 4 (bV 0))=s0 at *
 have j1:s0.dD o1=some (c.map cU):=(by rw[<-pZ,AS.cO _ Yx.symm,AS.cO _ OQ.symm,AS.bG]);have j2:s0.dD o2=some (List.replicate 4 (bV 0)):=(by rw[<-pZ,AS.cO _ ye.symm,AS.bG]);have j3:s0.dD o3=some (List.replicate 4 (bV 0)):=(by rw[<-pZ];exact AS.bG _ _ _);have hle:s.le s0:=(by rw[<-pZ];exact AS.dW (AS.dW (AS.dW (AS.le.refl s) yp _) Uv _) FT _);clear pZ FR tj;have yo:(List.replicate 4 (bV 0)).length=4:=(by simp);rw[<-om (fun i=>Aes.mx (fun j=>c.getD j 0) i) 4] at j3;generalize List.replicate 4 (bV 0)=Z at *
 refine wK fun K hK=>?_;refine jA ?_;refine dH ?_;refine dU (fun E s1=>∃i:Nat,i<=4∧E 1=.ptr o1 0∧E 2=.ptr o2 0∧E 3=.ptr o3 0∧E 5=.v (.int .i64 i)∧s1.dD o3=some (eM (fun i=>Aes.mx (fun j=>c.getD j 0) i) (fun _=>0) 4 i)∧s1.dD o1=some (c.map cU)∧s1.dD o2=some Z∧s.le s1)
  (fun E _=>match E 5 with |.v (.int _ i)=>4-i.toNat|_=>0) ?_ ?_
 ·exact⟨0,by omega,rfl,rfl,rfl,rfl,j3,j1,j2,hle⟩
 ·clear j1 j2 j3 hle;rintro E1 s1 ⟨i,hi,e1,e2,e3,e5,j3,j1,j2,hle⟩ -
  by_cases et:i<4
  ·have kR:(i:Int)<4:=(by omega);have LN:(i:Int)<((4:Nat):Int):=(by omega);have lu:(0:Int)<=(i:Int):=(by omega);refine jB (Ai @e5 (decide_eq_true kR)) ?_;refine wK fun K2 eH=>?_;refine jE ?_;refine dX ?_;refine eH _ _ ?_;clear eH K2;refine wK fun K3 eX=>?_;refine dH ?_;refine jB @e5 ?_;have fO:=jo (fun i=>Aes.mx (fun j=>c.getD j 0) i) (fun _=>0) 4 i _ rfl;have hlen:=iC (fun i=>Aes.mx (fun j=>c.getD j 0) i) (fun _=>0) 4 i;have Pj:Aes.mx (fun j=>c.getD j 0) i=(((Aes.OS (c.getD i 0) ^^^ Aes.OS (c.getD ((i+1)%4) 0)) ^^^ c.getD ((i+1)%4) 0) ^^^ c.getD ((i+2)%4) 0) ^^^ c.getD ((i+3)%4) 0:=rfl;rw[Pj] at fO;have d0:=iG (l:=c) i (by omega);have d1:=iG (l:=c) ((i+1)%4) (by omega);have d2:=iG (l:=c) ((i+2)%4) (by omega);have d3:=iG (l:=c) ((i+3)%4) (by omega);have k1:(0:Int)<=(((i+1)%4:Nat):Int):=(by omega);have k2:(0:Int)<=(((i+2)%4:Nat):Int):=(by omega);have k3:(0:Int)<=(((i+3)%4:Nat):Int):=(by omega);have m1:(((i+1)%4:Nat):Int)<((4:Nat):Int):=(by omega);have m2:(((i+2)%4:Nat):Int)<((4:Nat):Int):=(by omega);have m3:(((i+3)%4:Nat):Int)<((4:Nat):Int):=(by omega);clear Pj;generalize DG:eM (fun i=>Aes.mx (fun j=>c.getD j 0) i) (fun _=>0) 4 (i+1)=R' at *
   generalize eM (fun i=>Aes.mx (fun j=>c.getD j 0) i) (fun _=>0) 4 i=R at *
   generalize c.getD i 0=x0 at *
   generalize c.getD ((i+1)%4) 0=x1 at *
   generalize c.getD ((i+2)%4) 0=x2 at *
   generalize c.getD ((i+3)%4) 0=x3 at *
   generalize c.map cU=Y at *
   have a1:=Ut i (by omega);have a2:=xaD i (by omega);have a3:=xaE i (by omega);refine gl T.mixed [(o1,Y),(o3,R)] [4,10] [3,9,16,22,28] [31] (by kernel_rfl) (by simp only[dZ,ec,and_true];simp[AS.set,dY,j1,j3]) ?_;intro K hK;simp only[↓eN,↓eD,gY,gS,eg,ej,dZ,ec,List.any_cons,List.any_nil,List.contains_cons,List.contains_nil,Nat.reduceBEq,Bool.or_false,Bool.or_true,Bool.or_self,Bool.false_or,↓DN,Qa,Qb,Qc,Qd,Qe,Qf,Qg,Qh,reduceCtorEq,↓reduceIte,Na,Nb,Nc,Nk,Nf,Ng,Nh,Za,Zb,Zc,TT,e1,e3,e5,lu,kR,LN,k1,k2,k3,m1,m2,m3,d0,d1,d2,d3,a1,a2,a3,QL,qy,Yx,Yx.symm,j1,j3,cU,sO,fO,hlen,mQ];refine b6 (qx x0 _) ?_;rintro r sa ⟨rfl,rfl⟩;simp only[↓fM,↓fi,eZ,↓eN,↓eD,gY,gS,eg,ej,dZ,ec,List.any_cons,List.any_nil,DX,Nat.reduceBEq,↓DN,Qa,Qb,Qc,Qd,Qe,Qf,Qg,Qh,reduceCtorEq,↓reduceIte,Na,Nb,Nc,Nk,Nf,Ng,Nh,Za,Zb,Zc,TT,e1,e3,e5,lu,kR,LN,k1,k2,k3,m1,m2,m3,d0,d1,d2,d3,a1,a2,a3,QL,qy,Yx,Yx.symm,j1,j3,cU,sO,fO,hlen,mQ];refine b6 (qx x1 _) ?_;rintro r sb ⟨rfl,rfl⟩;simp only[↓fM,↓fi,eZ,↓eN,↓eD,gY,gS,eg,ej,dZ,ec,List.any_cons,List.any_nil,DX,Nat.reduceBEq,↓DN,Qa,Qb,Qc,Qd,Qe,Qf,Qg,Qh,reduceCtorEq,↓reduceIte,Na,Nb,Nc,Nk,Nf,Ng,Nh,Za,Zb,Zc,TT,e1,e3,e5,lu,kR,LN,k1,k2,k3,m1,m2,m3,d0,d1,d2,d3,a1,a2,a3,QL,qy,Yx,Yx.symm,j1,j3,cU,sO,fO,hlen,mQ];refine⟨by omega,hK _ _ ?_⟩;clear hK K;simp only[dn,dJ,if_true,if_false];refine eX _ _ ?_;clear eX K3;refine jD (Ai @e5 (fy i (by omega))) ?_;refine⟨⟨i+1,by omega,e1,e2,e3,rfl,by rw[DG];exact AS.bG _ _ _,by rw[AS.cO _ Yx.symm];exact j1,by rw[AS.cO _ ye.symm];exact j2,AS.dW hle FT _⟩,?_⟩;simp only[e5,dY,↓reduceIte];omega
  ·have kR:¬(i:Int)<4:=(by omega);obtain rfl:i=4:=(by omega);refine jB (Ai @e5 (decide_eq_false kR)) ?_;refine wK fun K2 eH=>?_;refine jF ?_;refine ep ?_;simp only[dJ,dn,if_true];clear eH K2;refine hK _ _ ?_;clear hK K;rw[lR,hF] at j3;have AB:((Cq c).map cU).length=4:=(by rw[List.length_map,Uu]);have fG:=gy (Cq c);have ir:List.take 4 ((Cq c).map cU)=(Cq c).map cU:=List.take_of_length_le (by omega);generalize (Cq c).map cU=X at *
   refine jS (Ai @e2 (Ai @e3 (Ai @j2 (Ai @j3 (Ai @AB (Ai @ir (Ai @fG (Ai @ye @ye.symm)))))))) fun K hK=>?_;rw[fj Z X (by omega)];refine⟨by omega,hK _ _ ?_⟩;clear hK K;refine eF ?_;refine kJ (v:=.agg X) (o:=o2) (off:=0) e2 (AS.bG _ _ _) (by rw[T.xbM];decide) (by simp only[↓DN,Qa,Qb,Qc,Qd,Qe,Qf,Qg,Qh,reduceCtorEq,↓reduceIte,Na,Nb,Nc,Nk,Nf,Ng,Nh,Za,Zb,Zc,TT,AB,ir]) ?_;exact⟨_,s,AV.dV.refl _,AS.dW hle Uv _,rfl,rfl⟩
theorem BV{s:AS}{o p q r:Nat}{x y z:List AV}(h:(if r=q then some z else if r=p then some y else if r=o then some x else s.dD r)=none):r≠q∧r≠p∧r≠o∧s.dD r=none:=by
 by_cases h1:r=q
 ·rw[if_pos h1] at h;cases h
 ·rw[if_neg h1] at h;obtain⟨h2,h3,h4⟩:=qG h;exact⟨h1,h2,h3,h4⟩
theorem xdP(a:Nat):mG (a:Int) 16=((a%16:Nat):Int):=mI a 16
theorem tH:¬(16:Int)=0:=dM
def Bf(b:List UInt8)(tV:Nat):List UInt8:=(aq 4).map fun i=>Aes.sh b (4*tV+i)
def qz(b:List UInt8)(last:Bool)(n:Nat):UInt8:=(Aes.OY b last).getD n 0
def uR(b:List UInt8)(last:Bool)(tV:Nat):List UInt8:=(aq 4).map fun i=>qz b last (4*tV+i)
theorem QM(b:List UInt8)(tV:Nat)(h:tV<4):Bf b tV=uR b true tV:=by
 unfold Bf uR;apply bx;intro i hi;have:=br.1 hi;rw[qz,Aes.IP b true _ oM,if_pos rfl]
theorem CH(b:List UInt8)(tV i:Nat)(h:i<4):(Bf b tV).getD i 0=Aes.sh b (4*tV+i):=Aes.qF _ 4 i 0 h
theorem N6(b:List UInt8)(tV:Nat)(h:tV<4):Cq (Bf b tV)=uR b false tV:=by
 unfold Cq uR;apply bx;intro i hi;have hi4:=br.1 hi;rw[qz,Aes.IP b false _ oM];simp only[al,if_false];have e1:(4*tV+i)/4=tV:=oM;have e2:(4*tV+i)%4=i:=oM;rw[e1,e2];unfold Aes.mx;simp only[CH b tV i hi4,CH b tV ((i+1)%4) oM,CH b tV ((i+2)%4) oM,CH b tV ((i+3)%4) oM]
theorem xdQ(b:List UInt8)(tV row:Nat)(h:row<4):Aes.S (b.getD ((4*(tV+row)+row)%16) 0)=Aes.sh b (4*tV+row):=by
 have e1:(4*tV+row)/4=tV:=oM;have e2:(4*tV+row)%4=row:=oM;have e3:(4*(tV+row)+row)%16=4*((tV+row)%4)+row:=oM;rw[Aes.sh,e1,e2,e3]
theorem Uw(b:List UInt8)(last:Bool)(G:Nat->UInt8)(tV:Nat):eQ (eM (qz b last) G 16 (4*tV)) (4*tV) ((uR b last tV).map cU)=eM (qz b last) G 16 (4*(tV+1)):=by
 have e:(uR b last tV).map cU=[bV (qz b last (4*tV)),bV (qz b last (4*tV+1)),bV (qz b last (4*tV+1+1)),bV (qz b last (4*tV+1+1+1))]:=rfl;rw[e];simp only[eQ];rw[jo _ _ _ _ _ rfl,jo _ _ _ _ _ rfl,jo _ _ _ _ _ rfl,jo _ _ _ _ _ rfl];rfl
theorem XL:([AV.v (.int .u8 0),AV.v (.int .u8 0),AV.v (.int .u8 0),AV.v (.int .u8 0),AV.v (.int .u8 0),AV.v (.int .u8 0),AV.v (.int .u8 0),AV.v (.int .u8 0),AV.v (.int .u8 0),AV.v (.int .u8 0),AV.v (.int .u8 0),AV.v (.int .u8 0),AV.v (.int .u8 0),AV.v (.int .u8 0),AV.v (.int .u8 0),AV.v (.int .u8 0)]:List AV)=af 16 (bV 0):=rfl
theorem z4:([AV.v (.int .u8 0),AV.v (.int .u8 0),AV.v (.int .u8 0),AV.v (.int .u8 0)]:List AV)=af 4 (bV 0):=rfl
theorem qH(i:Nat)(h:i<1000):mF .i64 4 (i:Int)=((4*i:Nat):Int):=by
 rw[iv oM];omega
theorem EM(b:List UInt8)(hb:b.length=16)(last:Bool)(s:AS):
  dS prog Γ 242 [.agg (b.map cU),.agg (Aes.sb.map cU),.v (.bool last)] s (fun r s'=>r=.agg ((Aes.OY b last).map cU)∧s'=s):=by
 refine fm func242 rfl ntmps242 results242 (by simp) ?_;have HW:(b.map cU).length=16:=(by rw[List.length_map,hb]);have wY:(Aes.sb.map cU).length=256:=(by rw[List.length_map,Aes.oU]);refine jQ fun K hK=>?_;intro o3 FR o4 IC;obtain⟨Xa,A5⟩:=AS.km IC;intro o6 Q8;obtain⟨h64,I6,xdR⟩:=qG Q8;rw[XL];refine hK _ _ ?_;clear hK K;refine jQ fun K hK=>?_;intro o7 DD;obtain⟨h76,h74,h73,xdS⟩:=BV DD;rw[XL];refine hK _ _ ?_;clear hK K;generalize pZ:(((s.set o3 (b.map cU)).set o4 (Aes.sb.map cU)).set o6 (List.replicate 16 (bV 0))).set o7 (List.replicate 16 (bV 0))=s0 at *
 have j3:s0.dD o3=some (b.map cU):=(by rw[<-pZ,AS.cO _ h73.symm,AS.cO _ I6.symm,AS.cO _ Xa.symm,AS.bG]);have j4:s0.dD o4=some (Aes.sb.map cU):=(by rw[<-pZ,AS.cO _ h74.symm,AS.cO _ h64.symm,AS.bG]);have j6:s0.dD o6=some (List.replicate 16 (bV 0)):=(by rw[<-pZ,AS.cO _ h76.symm,AS.bG]);have j7:s0.dD o7=some (List.replicate 16 (bV 0)):=(by rw[<-pZ];exact AS.bG _ _ _);have hle:s.le s0:=(by rw[<-pZ];exact AS.dW (AS.dW (AS.dW (AS.dW (AS.le.refl s) FR _) A5 _) xdR _) xdS _);clear pZ IC Q8 DD;have yo:(List.replicate 16 (bV 0)).length=16:=(by simp);rw[<-om (qz b last) 16] at j7;generalize List.replicate 16 (bV 0)=Z at *
 refine wK fun K hK=>?_;refine jA ?_;refine dH ?_;refine dU (fun E s1=>∃i:Nat,i<=4∧E 2=.v (.bool last)∧E 3=.ptr o3 0∧E 4=.ptr o4 0∧E 6=.ptr o6 0∧E 7=.ptr o7 0∧E 11=.v (.int .i64 i)∧s1.dD o7=some (eM (qz b last) (fun _=>0) 16 (4*i))∧s1.dD o3=some (b.map cU)∧s1.dD o4=some (Aes.sb.map cU)∧s1.dD o6=some Z∧s.le s1)
  (fun E _=>match E 11 with |.v (.int _ i)=>4-i.toNat|_=>0) ?_ ?_
 ·exact⟨0,by omega,by simp only[dY,eV,Nc,↓reduceIte];rfl,rfl,rfl,rfl,rfl,rfl,j7,j3,j4,j6,hle⟩
 ·clear j3 j4 j6 j7 hle;rintro E1 s1 ⟨i,hi,e2,e3,e4,e6,e7,wW,j7,j3,j4,j6,hle⟩ -
  by_cases et:i<4
  ·have kR:(i:Int)<4:=(by omega);refine jB (Ai @wW (decide_eq_true kR)) ?_;refine wK fun K2 eH=>?_;refine jE ?_;refine dX ?_;refine eH _ _ ?_;clear eH K2;refine wK fun K3 eX=>?_;refine dH ?_;refine jB @wW ?_;refine jQ fun K hK=>?_;intro o9 Ux;rw[z4];refine hK _ _ ?_;clear hK K;have n93:o9≠o3:=(fun e=>by rw[e,j3] at Ux;cases Ux);have n94:o9≠o4:=(fun e=>by rw[e,j4] at Ux;cases Ux);have n96:o9≠o6:=(fun e=>by rw[e,j6] at Ux;cases Ux);have n97:o9≠o7:=(fun e=>by rw[e,j7] at Ux;cases Ux);have UQ:s.dD o9=none:=by
    cases h:s.dD o9 with
    |none=>rfl
    |some cs=>rw[hle.dD _ _ h] at Ux;cases Ux
   generalize oq:s1.set o9 (List.replicate 4 (bV 0))=s2 at *
   have q3:s2.dD o3=some (b.map cU):=(by rw[<-oq,AS.cO _ n93.symm];exact j3);have q4:s2.dD o4=some (Aes.sb.map cU):=(by rw[<-oq,AS.cO _ n94.symm];exact j4);have q6:s2.dD o6=some Z:=(by rw[<-oq,AS.cO _ n96.symm];exact j6);have q7:s2.dD o7=some (eM (qz b last) (fun _=>0) 16 (4*i)):=(by rw[<-oq,AS.cO _ n97.symm];exact j7);have q9:s2.dD o9=some (List.replicate 4 (bV 0)):=(by rw[<-oq];exact AS.bG _ _ _);have iL:s.le s2:=(by rw[<-oq];exact AS.dW hle UQ _);clear oq j3 j4 j6 j7 Ux hle;rw[<-om (fun r=>Aes.sh b (4*i+r)) 4] at q9;refine wK fun K hK=>?_;refine jA ?_;refine dH ?_;refine dU (fun E s3=>∃r:Nat,r<=4∧E 2=.v (.bool last)∧E 3=.ptr o3 0∧E 4=.ptr o4 0∧E 6=.ptr o6 0∧E 7=.ptr o7 0∧E 8=.v (.int .i64 i)∧E 9=.ptr o9 0∧E 11=.v (.int .i64 i)∧E 14=.v (.int .i64 r)∧s3.dD o9=some (eM (fun r=>Aes.sh b (4*i+r)) (fun _=>0) 4 r)∧s3.dD o7=some (eM (qz b last) (fun _=>0) 16 (4*i))∧s3.dD o3=some (b.map cU)∧s3.dD o4=some (Aes.sb.map cU)∧s3.dD o6=some Z∧s.le s3)
    (fun E _=>match E 14 with |.v (.int _ i)=>4-i.toNat|_=>0) ?_ ?_
   ·exact⟨0,by omega,e2,e3,e4,e6,e7,rfl,rfl,wW,rfl,q9,q7,q3,q4,q6,iL⟩
   ·clear q3 q4 q6 q7 q9 iL;rintro E4 s3 ⟨r,hr,g2,g3,g4,g6,g7,g8,g9,g11,g14,q9,q7,q3,q4,q6,iL⟩ -
    by_cases xo:r<4
    ·have vR:(r:Int)<4:=(by omega);refine jB (Ai @g14 (decide_eq_true vR)) ?_;refine wK fun K6 ll=>?_;refine jE ?_;refine dX ?_;refine ll _ _ ?_;clear ll K6;refine wK fun K7 v7=>?_;refine dH ?_;refine jB @g14 ?_;have fO:=jo (fun r=>Aes.sh b (4*i+r)) (fun _=>0) 4 r _ rfl;rw[<-xdQ b i r xo] at fO;have hlen:=iC (fun r=>Aes.sh b (4*i+r)) (fun _=>0) 4 r;have a0:=gw i r (by omega);have a1:=qH (i+r) (by omega);have a2:=gw (4*(i+r)) r (by omega);have a3:=xdP (4*(i+r)+r);have db:=iG (l:=b) ((4*(i+r)+r)%16) (by omega);have k0:(0:Int)<=(((4*(i+r)+r)%16:Nat):Int):=(by omega);have k1:(((4*(i+r)+r)%16:Nat):Int)<((16:Nat):Int):=(by omega);generalize (4*(i+r)+r)%16=m at *
     have hm:=(b.getD m 0).toNat_lt;have ds:=iG (l:=Aes.sb) (b.getD m 0).toNat (by rw[Aes.oU];omega);rw[show Aes.sb.getD (b.getD m 0).toNat 0=Aes.S (b.getD m 0) from rfl] at ds;generalize Aes.S (b.getD m 0)=y at *
     generalize b.getD m 0=x at *
     have k2:(0:Int)<=((x.toNat:Nat):Int):=(by omega);have k3:((x.toNat:Nat):Int)<((256:Nat):Int):=(by omega);have LK:(0:Int)<=(r:Int):=(by omega);have wN:(r:Int)<((4:Nat):Int):=(by omega);generalize DG:eM (fun r=>Aes.sh b (4*i+r)) (fun _=>0) 4 (r+1)=R' at *
     generalize eM (fun r=>Aes.sh b (4*i+r)) (fun _=>0) 4 r=R at *
     generalize hY1:b.map cU=Y1 at *
     generalize ZH:Aes.sb.map cU=Y2 at *
     refine wE fun K hK=>?_;simp only[↓DN,Qa,Qb,Qc,Qd,Qe,Qf,Qg,Qh,reduceCtorEq,↓reduceIte,Na,Nb,Nc,Nk,Nf,Ng,Nh,Za,Zb,Zc,TT,g3,g4,g8,g9,g14,LK,vR,wN,k0,k1,k2,k3,db,ds,a0,a1,a2,a3,tH,n93,n93.symm,n94,n94.symm,Xa,Xa.symm,q3,q4,q9,cU,fO,hlen,HW,wY];refine⟨by omega,hK _ _ ?_⟩;clear hK K;simp only[dn,dJ,if_true,if_false];refine v7 _ _ ?_;clear v7 K7;refine jD (Ai @g14 (fy r (by omega))) ?_;refine⟨⟨r+1,by omega,g2,g3,g4,g6,g7,g8,g9,g11,rfl,by rw[DG];exact AS.bG _ _ _,by rw[AS.cO _ n97.symm];exact q7,by rw[AS.cO _ n93.symm,q3],by rw[AS.cO _ n94.symm,q4],by rw[AS.cO _ n96.symm];exact q6,AS.dW iL UQ _⟩,?_⟩;simp only[g14,dY,↓reduceIte];omega
    ·have vR:¬(r:Int)<4:=(by omega);obtain rfl:r=4:=(by omega);refine jB (Ai @g14 (decide_eq_false vR)) ?_;refine wK fun K6 ll=>?_;refine jF ?_;refine ep ?_;simp only[dJ,dn,if_true];clear ll K6;refine hK _ _ ?_;clear hK K;rw[lR,show(List.range 4).map (fun r=>Aes.sh b (4*i+r))=Bf b i from rfl] at q9;refine wK fun K hK=>?_;have Yy:∀(E5:Env)(s4:AS),E5 2=.v (.bool last)->E5 3=.ptr o3 0->E5 4=.ptr o4 0->E5 6=.ptr o6 0->E5 7=.ptr o7 0->E5 8=.v (.int .i64 i)->E5 9=.ptr o9 0->E5 11=.v (.int .i64 i)->
       s4.dD o9=some ((uR b last i).map cU)->s4.dD o7=some (eM (qz b last) (fun _=>0) 16 (4*i))->s4.dD o3=some (b.map cU)->s4.dD o4=some (Aes.sb.map cU)->s4.dD o6=some Z->s.le s4->K E5 s4:=by
      intro E5 s4 f2 f3 f4 f6 f7 f8 f9 f11 t9 t7 t3 t4 t6 ie;refine hK _ _ ?_;clear hK K;have YK:=Uw b last (fun _=>0) i;have mQ:((uR b last i).map cU).length=4:=(by simp[uR]);have fG:=gy (uR b last i);have ir:List.take 4 ((uR b last i).map cU)=(uR b last i).map cU:=List.take_of_length_le (by omega);have uK:=iC (qz b last) (fun _=>0) 16 (4*i);generalize hC:(uR b last i).map cU=C at *
      generalize hF':eM (qz b last) (fun _=>0) 16 (4*(i+1))=F' at *
      generalize eM (qz b last) (fun _=>0) 16 (4*i)=F at *
      have a1:=qH i (by omega);have l0:(0:Int)<=((4*i:Nat):Int):=(by omega);have l1:((4*i:Nat):Int)<=((16:Nat):Int):=(by omega);have l2:¬(((16:Nat):Int)=((4*i:Nat):Int)):=(by omega);have l3:min 4 (16-4*i)=4:=(by omega);refine iw T.mixed [4] (by kernel_rfl) ?_;intro K hK;refine jN (Ai @f7 (Ai @f8 (Ai @f9 (Ai @a1 (Ai @l0 (Ai @l1 (Ai @l2 (Ai @l3 (Ai (show((16:Nat):Int)<=((16:Nat):Int) from by decide) (Ai (show(0:Int)<=((4:Nat):Int) from by decide) (Ai (show((4:Nat):Int)<=((4:Nat):Int) from by decide) (Ai (show ¬(((4:Nat):Int)=0) from by decide) (Ai @t9 (Ai @t7 (Ai @mQ (Ai @fG (Ai @ir (Ai @uK (Ai @YK (Ai @n97 @n97.symm)))))))))))))))))))) ?_;refine⟨by omega,hK _ _ ?_⟩;clear hK K;simp only[dn,dJ,if_true,if_false];refine eX _ _ ?_;clear eX K3;refine jD (Ai @f11 (fy i (by omega))) ?_;refine⟨⟨i+1,by omega,f2,f3,f4,f6,f7,rfl,by rw[hF'];exact AS.bG _ _ _,by rw[AS.cO _ h73.symm];exact t3,by rw[AS.cO _ h74.symm];exact t4,by rw[AS.cO _ h76.symm];exact t6,AS.dW ie xdS _⟩,?_⟩;simp only[wW,dY,↓reduceIte];omega
     clear hK eX;cases last with
     |true=>
      rw[QM b i et] at q9;refine jB @g2 ?_;refine jF ?_;refine dX ?_;exact Yy _ _ g2 g3 g4 g6 g7 g8 g9 g11 q9 q7 q3 q4 q6 iL
     |false=>
      have xdW:(Cq (Bf b i)).map cU=(uR b false i).map cU:=(by rw[N6 b i et]);have Cu:((Bf b i).map cU).length=4:=(by simp[Bf]);have hpc:=IY (Γ:=Γ) (Bf b i) (by simp[Bf]) s3;have hpk:List.take 4 ((Bf b i).map cU)=(Bf b i).map cU:=List.take_of_length_le (by omega);rw[xdW] at hpc;have mQ:((uR b false i).map cU).length=4:=(by simp[uR]);have fG:=gy (uR b false i);generalize hC:(uR b false i).map cU=C at *
      generalize (Bf b i).map cU=Pc at *
      refine jB @g2 ?_;refine jE ?_;refine jU (Ai @g9 (Ai @q9 (Ai @Cu @hpk))) fun K hK=>?_;refine b6 hpc ?_;rintro r5 s5 ⟨rfl,rfl⟩;refine jN (Ai @g9 (Ai @q9 (Ai @Cu (Ai @mQ @fG)))) ?_;rw[fj Pc C (by omega)];refine hK _ _ ?_;clear hK K;exact Yy _ _ g2 g3 g4 g6 g7 g8 g9 g11 (AS.bG _ _ _) (by rw[AS.cO _ n97.symm];exact q7) (by rw[AS.cO _ n93.symm];exact q3) (by rw[AS.cO _ n94.symm];exact q4) (by rw[AS.cO _ n96.symm];exact q6) (AS.dW iL UQ _)
  ·have kR:¬(i:Int)<4:=(by omega);obtain rfl:i=4:=(by omega);refine jB (Ai @wW (decide_eq_false kR)) ?_;refine wK fun K2 eH=>?_;refine jF ?_;refine ep ?_;simp only[dJ,dn,if_true];clear eH K2;refine hK _ _ ?_;clear hK K;rw[show 4*4=16 from rfl,lR,show(List.range 16).map (qz b last)=Aes.OY b last from oO (Aes.IL b last)] at j7;have AB:((Aes.OY b last).map cU).length=16:=(by rw[List.length_map,Aes.IL]);have fG:=gy (Aes.OY b last);have ir:List.take 16 ((Aes.OY b last).map cU)=(Aes.OY b last).map cU:=List.take_of_length_le (by omega);generalize (Aes.OY b last).map cU=X at *
   refine jS (Ai @e6 (Ai @e7 (Ai @j6 (Ai @j7 (Ai @AB (Ai @ir (Ai @fG (Ai @h76 @h76.symm)))))))) fun K hK=>?_;rw[fj Z X (by omega)];refine⟨by omega,hK _ _ ?_⟩;clear hK K;refine eF ?_;refine kJ (v:=.agg X) (o:=o6) (off:=0) e6 (AS.bG _ _ _) (by rw[T.VC];decide) (by simp only[↓DN,Qa,Qb,Qc,Qd,Qe,Qf,Qg,Qh,reduceCtorEq,↓reduceIte,Na,Nb,Nc,Nk,Nf,Ng,Nh,Za,Zb,Zc,TT,AB,ir]) ?_;exact⟨_,s,AV.dV.refl _,AS.dW hle xdR _,rfl,rfl⟩
theorem z167:eO prog 254=some (af 176 (bV 0)):=kM
theorem EN(F G:Nat->UInt8)(N:Nat):∀(xs:List UInt8)(i:Nat),(∀k,k<xs.length->xs.getD k 0=F (i+k))->eQ (eM F G N i) i (xs.map cU)=eM F G N (i+xs.length)
  |[],i,_=>by simp[eQ]
  |x::xs,i,h=>by
    have h0:=h 0 sM;simp only[a8,Nat.add_zero] at h0;rw[aB,eQ,show cU x=bV x from rfl,jo F G N i x h0,EN F G N xs (i+1) (fun k hk=>by
      have:=h (k+1) (by simp;omega);rw[bm] at this;rw[this];congr 1;omega)]
    simp only[aW];congr 1;omega
def fJ(key:List UInt8):List UInt8:=(aq 176).map (Aes.ak key)
theorem iX(key:List UInt8):(fJ key).length=176:=by simp[fJ]
theorem Ha(key:List UInt8)(hk:key.length=16)(G:Nat->UInt8)(q m:Nat)(hq:q<11)(hm:(q+1)*16<=m):aG 16 (aJ (q*16) (eM (Aes.ak key) G 176 m))=(Aes.kr key q).map cU:=by
  have hl:=Aes.x9 hk q;apply List.ext_getElem
  · simp[eM,hl];omega
  · intro k h1 h2;have AE:k<16:=(by simpa[hl] using h2);simp only[List.getElem_take,List.getElem_drop,eM,List.getElem_map,List.getElem_range];rw[if_pos oM,Aes.ak,show(q*16+k)/16=q by omega,show(q*16+k)%16=k by omega];simp[ag (show k<(Aes.kr key q).length by omega)]
def Jn(key:List UInt8)(q n:Nat):UInt8:=if n=(q+1)*16 then Aes.ak key n ^^^ Aes.GY q else Aes.ak key n
theorem Xb(key:List UInt8)(hk:key.length=16)(q i:Nat)(hi:i<4):(Aes.kr key q).getD i 0 ^^^ Aes.S ((Aes.kr key q).getD (12+(i+1)%4) 0)=Jn key q ((q+1)*16+i):=by
  have hl:=Aes.T4 hk q i hi;have e1:Aes.ak key (16*q+i)=(Aes.kr key q).getD i 0:=(by rw[Aes.ak,show(16*q+i)/16=q by omega,show(16*q+i)%16=i by omega]);have e2:Aes.ak key (16*q+(12+(i+1)%4))=(Aes.kr key q).getD (12+(i+1)%4) 0:=(by rw[Aes.ak,show(16*q+(12+(i+1)%4))/16=q by omega,show(16*q+(12+(i+1)%4))%16=12+(i+1)%4 by omega]);rw[e1,e2] at hl;rw[Jn,show(q+1)*16+i=16*(q+1)+i by omega];by_cases h0:i=0
  · rw[if_pos h0] at hl;rw[if_pos oM,hl,UInt8.xor_assoc,UInt8.xor_self,UInt8.xor_zero]
  · rw[if_neg h0] at hl;rw[if_neg oM,hl]
theorem Uy(key:List UInt8)(G:Nat->UInt8)(q:Nat):eM (Jn key q) G 176 ((q+1)*16)=eM (Aes.ak key) G 176 ((q+1)*16):=by
  unfold eM;apply bx;intro n _;by_cases h:n<(q+1)*16
  · rw[if_pos h,if_pos h,Jn,if_neg oM]
  · rw[if_neg h,if_neg h]
theorem Xc(key:List UInt8)(G:Nat->UInt8)(q:Nat)(hq:q<10):(eM (Jn key q) G 176 ((q+1)*16+4)).set ((q+1)*16) (bV (Jn key q ((q+1)*16) ^^^ Aes.GY q))=eM (Aes.ak key) G 176 ((q+1)*16+4):=by
  have e:Jn key q ((q+1)*16) ^^^ Aes.GY q=Aes.ak key ((q+1)*16):=by
    rw[Jn,if_pos rfl,UInt8.xor_assoc,UInt8.xor_self,UInt8.xor_zero]
  rw[e];apply bg;intro k;by_cases h:k=(q+1)*16
  · subst h;rw[cK (by rw[iC];omega)];simp only[eM,aL];rw[List.getElem?_range oM];simp only[cj];rw[if_pos oM];rfl
  · rw[List.getElem?_set_ne oM];simp only[eM,aL];by_cases hk:k<176
    · rw[List.getElem?_range hk];simp only[cj];rw[Jn,if_neg h]
    · rw[aU (by simp;omega)];rfl
theorem QN(key:List UInt8)(hk:key.length=16)(q i:Nat)(h4:4<=i)(hi:i<16):(Aes.kr key q).getD i 0 ^^^ Aes.ak key ((q+1)*16+(i-4))=Aes.ak key ((q+1)*16+i):=by
  have hl:=Aes.OX hk q i h4 hi;have e1:Aes.ak key (16*q+i)=(Aes.kr key q).getD i 0:=(by rw[Aes.ak,show(16*q+i)/16=q by omega,show(16*q+i)%16=i by omega]);rw[e1] at hl;rw[show(q+1)*16+i=16*(q+1)+i by omega,show(q+1)*16+(i-4)=16*(q+1)+(i-4) by omega,hl]
theorem xdX(m:Nat)(h:m<1000):iY .i64 12 (m:Int)=((12+m:Nat):Int):=by
  rw[kh oM];omega
theorem QO(x:UInt8):Aes.sb.getD x.toNat 0=Aes.S x:=rfl
end Go.Proofs.YtbiefppedlodiaaGreatDoor
