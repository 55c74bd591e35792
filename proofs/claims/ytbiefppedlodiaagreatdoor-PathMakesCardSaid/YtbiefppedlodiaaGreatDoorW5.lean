/- Contracts of functions, each walked once; each theorem states its conditions. -/
import Derived.Test.YtbiefppedlodiaaGreatDoorAMp6
import Derived.Test.YtbiefppedlodiaaGreatDoorW1
import Derived.Test.YtbiefppedlodiaaGreatDoorW4
import Derived.Test.YtbiefppedlodiaaGreatDoorW3
open Go.Fence renaming wide -> bR
open Go.IntKind renaming bits -> aF
open List renaming append_assoc -> a8, append_nil -> bT, drop -> aH, ext_getElem? -> bm, getD -> bf, getD_eq_getElem?_getD -> aO, getElem?_append_left -> bX, getElem?_append_right -> cG, getElem?_drop -> cg, getElem?_eq_getElem -> ag, getElem?_eq_some_iff -> bD, getElem?_map -> aM, getElem?_set_self -> cP, length_append -> ai, length_cons -> aY, length_nil -> aW, length_replicate -> cR, length_take -> aU, map_cons -> aD, range -> aq, replicate -> ad, replicate_one -> bA, replicate_zero -> cc, take -> aG, take_of_length_le -> ae, take_succ_eq_append_getElem -> af, toList_toArray -> ah
open Nat renaming add_mul -> cV, le_refl -> aw, le_trans -> cB, lt_irrefl -> cw, mul_assoc -> cK, reducePow -> cW, shiftLeft_add_eq_or_of_lt -> di, zero_le -> aA
open Ne renaming symm -> bI
open UInt8 renaming ofNat -> ax
set_option linter.unusedSimpArgs false
set_option linter.unusedVariables false
open Nat renaming reduceLT -> Na, reduceLeDiff -> Nb, reduceEqDiff -> Nc, reduceAdd -> Nk, reduceMul -> Nf, reducePow -> Ng, reduceSub -> Nh, reduceBEq -> Nz
open Int renaming reduceLT -> Za, reduceLE -> Zb, reduceToNat -> Zc
open And renaming intro -> Ai
open Go.AM renaming ashift -> Qa, aconv -> Qb, aindexAddr -> Qc, aindex -> Qd, aslice -> Qe, abuiltin -> Qf, awp_reg_seq -> wS, awp_reg_end -> wE, awp_seq_k -> wK, awp_cond_k -> wC
open Go.AM.AV renaming cells -> Qg, one -> Qh
set_option maxRecDepth 100000
set_option maxHeartbeats 8000000
namespace Go.Proofs.YtbiefppedlodiaaGreatDoor
open Go Go.AM Go.Proofs Tryz
variable{Γ:Nat->List AV}
def row(c:List UInt8)(i:Nat):List AV:=(Sha.rE c i).map wV++ad (64-i) (wV 0)
theorem row_zero(c:List UInt8):row c 0=ad 64 (wV 0):=rfl
theorem Lc(c:List UInt8):row c 64=(Sha.rE c 64).map wV:=by simp[row]
theorem gU(c:List UInt8)(i:Nat)(h:i<=64):(row c i).length=64:=by
 simp[row,Sha.gH];omega
theorem drop_cons{α:Type}(l:List α)(j:Nat)(x:α)(h:l[j]? =some x):aH j l=x::aH (j+1) l:=by
 obtain⟨h1,h2⟩:=bD.1 h;rw[List.drop_eq_getElem_cons h1,h2]
theorem pF(c:List UInt8)(i j:Nat)(h:j<i):aH j (row c i)=wV ((Sha.rE c i).getD j 0)::aH (j+1) (row c i):=by
 apply drop_cons;have hl:j<(Sha.rE c i).length:=(by rw[Sha.gH];exact h);rw[row,bX (by simpa using hl),aM,ag hl];simp[bf,ag hl]
def rowP(c:List UInt8)(i v:Nat):List AV:=(row c i).set i (wV v)
theorem Qy(c:List UInt8)(i:Nat)(h:i<64):rowP c i 0=row c i:=by
 unfold rowP;apply bm;intro k;by_cases e:k=i
 ·subst e;rw[cP (by rw[gU c k oM];exact h),row,cG (by simp[Sha.gH])];simp[Sha.gH,List.getElem?_replicate];omega
 ·rw[List.getElem?_set_ne oM]
theorem Qz(c:List UInt8)(i v:Nat)(h:i<64):aH i (rowP c i v)=wV v::aH (i+1) (rowP c i v):=by
 apply drop_cons;rw[rowP,cP (by rw[gU c i oM];exact h)]
theorem TA(c:List UInt8)(i v u:Nat):(rowP c i v).set i (wV u)=rowP c i u:=by simp[rowP]
theorem TB(c:List UInt8)(i v:Nat)(h:i<=64):(rowP c i v).length=64:=by simp[rowP,gU c i h]
theorem CF(c:List UInt8)(i:Nat)(h:i<64):(row c i).set i (wV (Sha.word c (Sha.rE c i) i))=row c (i+1):=by
 apply bm;intro k;by_cases e:k=i
 ·subst e;rw[cP (by rw[gU c k oM];exact h),row,bX (by simp[Sha.gH])];simp[Sha.rE,Sha.gH,cG]
 ·rw[List.getElem?_set_ne oM,row,row];by_cases hk:k<i
  ·rw[bX (by simp[Sha.gH];omega),bX (by simp[Sha.gH];omega)];simp[Sha.rE,bX,Sha.gH,hk]
  ·rw[cG (by simp[Sha.gH];omega),cG (by simp[Sha.gH];omega)];simp only[List.length_map,Sha.gH,List.getElem?_replicate];by_cases h2:k<64
   ·rw[if_pos oM,if_pos oM]
   ·rw[if_neg oM,if_neg oM]
def xg(c:List UInt8)(i k:Nat):Nat:=((c.drop (4*i)).take k).foldl (fun x b=>x*256+b.toNat) 0
theorem Ev(c:List UInt8)(i:Nat):xg c i 0=0:=rfl
theorem rz(c:List UInt8)(i k:Nat)(b:UInt8)(h:c[4*i+k]? =some b):xg c i (k+1)=xg c i k*256+b.toNat:=by
 unfold xg;have :(c.drop (4*i))[k]? =some b:=(by rw[cg];exact h);obtain⟨h1,h2⟩:=bD.1 this;rw[af h1,List.foldl_append,h2];rfl
theorem TC(c:List UInt8)(i k:Nat)(hk:k<=3):xg c i k<16777216:=by
 have key:∀(l:List UInt8)(x:Nat),l.foldl (fun x b=>x*256+b.toNat) x<(x+1)*256^l.length:=by
  intro l;induction l with
  |nil=>intro x;simp
  |cons b l ih=>
   intro x;rw[List.foldl_cons];have h1:=ih (x*256+b.toNat);have hb:=b.toNat_lt;have h2:(x*256+b.toNat+1)*256^l.length<=((x+1)*256)*256^l.length:=Nat.mul_le_mul_right _ oM;rw[aY,Nat.pow_succ,Nat.mul_comm (256^l.length),<-cK];omega
 have h:=key ((c.drop (4*i)).take k) 0;have hl:((c.drop (4*i)).take k).length<=3:=(by simp;omega);have :256^((c.drop (4*i)).take k).length<=256^3:=Nat.pow_le_pow_right dM hl;unfold xg;omega
theorem NW(c:List UInt8)(p:List Nat)(i:Nat)(hi:i<16)(hc:c.length=64):xg c i 4=Sha.word c p i:=by
 have g:∀j,j<4->c[4*i+j]? =some (c.getD (4*i+j) 0):=fun j hj=>by
  rw[aO,ag oM];rfl
 rw[rz c i 3 _ (g 3 oM),rz c i 2 _ (g 2 oM),rz c i 1 _ (g 1 oM),rz c i 0 _ (g 0 oM),Ev];unfold Sha.word;rw[if_pos hi];simp only[Sha.NS,Nat.add_zero,Nat.zero_mul,Nat.zero_add]
theorem Z6(x:Nat)(b:UInt8)(h:x<16777216):L5 .u32 (oo .u32 (x:Int) 8) (gq .u32 (b.toNat:Int))=((x*256+b.toNat:Nat):Int):=by
 have hb:=b.toNat_lt;rw[show(8:Int)=((8:Nat):Int) from rfl,Tz x 8 dM,nh rfl];have e1:x*2^8%4294967296=x*256:=oM;have e2:b.toNat%2^IntKind.u32.bits=b.toNat:=(by simp only[aF];omega);rw[e1,e2,wor _ _ oM oM];have:=di (b:=b.toNat) (i:=8) oM x;rw[Nat.shiftLeft_eq] at this;rw[show x*256=x*2^8 from rfl,<-this]
theorem xG:∀(xs cs:List AV)(off:Nat),off+xs.length<=cs.length->eQ cs off xs=cs.take off++xs++cs.drop (off+xs.length)
 |[],cs,off,_=>by simp[eQ]
 |x::xs,cs,off,h=>by
  simp only[aY] at h;rw[eQ,xG xs _ _ (by simp;omega)];have e1:aG (off+1) (cs.set off x)=aG off cs++[x]:=by
   rw[af (by simp;omega)];simp[List.take_set_of_le]
  have e2:aH (off+1+xs.length) (cs.set off x)=aH (off+(xs.length+1)) cs:=by
   rw[List.drop_set_of_lt oM,show off+1+xs.length=off+(xs.length+1) from oM]
  rw[e1,e2];simp
theorem fj(cs xs:List AV)(h:cs.length=xs.length):eQ cs 0 xs=xs:=by
 rw[xG xs cs 0 oM];simp[<-h]
theorem z138:eO prog 246=some (ad 64 (wV 0)):=kM
theorem Z7(l:List Nat):(l.map wV).all AV.one=true:=by
 rw[List.all_eq_true];intro x hx;obtain⟨n,_,rfl⟩:=List.mem_map.1 hx;rfl
theorem q64:nn .i64 ((64:Nat):Int) 4=16:=dM
theorem fy(i:Nat)(h:i<2^62):iY .i64 (i:Int) 1=((i+1:Nat):Int):=by
 rw[kh oM];rfl
theorem Ld(i:Nat)(h:i<64):mF .i64 4 (i:Int)=((4*i:Nat):Int):=by
 rw[iv oM];omega
theorem gw(a b:Nat)(h:a+b<9223372036854775808):iY .i64 (a:Int) (b:Int)=((a+b:Nat):Int):=by
 rw[kh oM];omega
theorem TD(a:Nat)(h:a<2^62):iY .i64 (a:Int) 4=((a+4:Nat):Int):=gw a 4 oM
theorem ju(a b:Nat)(hb:b<=a)(h:a<9223372036854775808):gR .i64 (a:Int) (b:Int)=((a-b:Nat):Int):=by
 rw[fD oM];omega
theorem IB(c:List UInt8)(hc:c.length=64)(s:AS):
  dS prog Γ 233 [dm c .any] s (fun r s'=>r=.agg ((Sha.rE c 64).map wV)∧s'=s):=by
 refine fm func233 rfl ntmps233 results233 (by simp) ?_;refine jS @z138 fun K hK=>?_;intro o2 tj;refine hK _ _ ?_;clear hK K;refine jS @z138 fun K hK=>?_;intro o3 FR;refine hK _ _ ?_;clear hK K;obtain⟨ye,FT⟩:=AS.km FR;clear FR;rw[<-row_zero c];refine wK fun K hK=>?_;refine jA ?_;refine dH ?_;have mQ:(dm c .any:AV)=.sl 1 64 (c.map cU) .any:=(by rw[dm,hc]);refine dU (fun E s1=>∃i:Nat,i<=64∧E 0=.sl 1 64 (c.map cU) .any∧E 2=.ptr o2 0∧E 3=.ptr o3 0∧E 7=.v (.int .i64 i)∧s1=(s.set o2 (row c 0)).set o3 (row c i))
  (fun E _=>match E 7 with |.v (.int _ i)=>64-i.toNat|_=>0) ?_ ?_
 ·exact⟨0,by omega,by simp[dY,eV,hc],by simp[dY],by simp[dY],by simp[dY],rfl⟩
 ·rintro E1 s1 ⟨i,hi,e0,e2,e3,e7,rfl⟩ -
  by_cases et:i<64
  ·have kR:(i:Int)<64:=(by omega);have LN:(i:Int)<((64:Nat):Int):=(by omega);refine jB (Ai @e7 (decide_eq_true kR)) ?_;refine wK fun K2 eH=>?_;refine jE ?_;refine dX ?_;refine eH _ _ ?_;clear eH K2;refine wK fun K3 eX=>?_;refine dH ?_;refine jB @e7 ?_;have GM:∀E4:Env,E4 0=.sl 1 64 (c.map cU) .any->E4 2=.ptr o2 0->E4 3=.ptr o3 0->E4 7=.v (.int .i64 i)->K3 E4 ((s.set o2 (row c 0)).set o3 (row c (i+1))):=by
    intro E4 f0 f2 f3 f7;refine eX _ _ ?_;clear eX K3;refine jD (Ai @f7 (fy i (by omega))) ?_;refine⟨⟨i+1,by omega,f0,f2,f3,rfl,rfl⟩,?_⟩;simp only[e7,dY,↓reduceIte];omega
   clear eX;refine wK fun K4 jm=>?_;by_cases VR:i<16
   ·have TE:(i:Int)<16:=(by omega);refine jB (Ai @e0 (Ai @e7 @q64)) ?_;refine wC fun X Y hX hY=>?_;simp only[UP,DF,Nc,↓reduceIte,DB];refine⟨fun _=>hX ?_,fun h=>absurd TE h⟩;clear hX hY X Y;have He:(0:Int)<=((4*i:Nat):Int):=(by omega);have hlh:((4*i:Nat):Int)<=((4*i+4:Nat):Int):=(by omega);have xg1:((4*i+4:Nat):Int)<=((64:Nat):Int):=(by omega);refine wK fun K5 mE=>?_;refine jB (Ai @e0 (Ai @e7 (Ai (Ld i et) (Ai (TD (4*i) (by omega)) (Ai @He (Ai @hlh (Ai @xg1 @Nat.add_sub_cancel_left))))))) ?_;refine dH ?_;obtain⟨Xs,hXs⟩:∃Xs,Xs=List.map cU (List.drop (4*i) (List.take (4*i+4) c)):=⟨_,rfl⟩;have hXk:∀k,k<4->List.take 1 (List.drop k Xs)=[cU (c.getD (4*i+k) 0)]:=by
     intro k hk;have :Xs[k]? =some (cU (c.getD (4*i+k) 0)):=by
      rw[hXs,List.getElem?_map,List.getElem?_drop,List.getElem?_take,if_pos (by omega),List.getElem?_eq_getElem (by omega)];simp only[Option.map_some,List.getD,List.getElem?_eq_getElem (show 4*i+k<c.length by omega),Option.getD_some]
     rw[drop_cons _ _ _ this];rfl
    rw[<-hXs];refine dU (fun E s2=>∃k:Nat,k<=4∧E 0=.sl 1 64 (c.map cU) .any∧E 2=.ptr o2 0∧E 3=.ptr o3 0∧E 7=.v (.int .i64 i)∧E 4=.v (.int .i64 i)∧E 21=.sl 1 4 Xs .any∧E 22=.v (.int .i64 4)∧E 23=.v (.int .i64 k)∧s2=(s.set o2 (row c 0)).set o3 (rowP c i (xg c i k)))
     (fun E _=>match E 23 with |.v (.int _ k)=>4-k.toNat|_=>0) ?_ ?_
    ·refine⟨0,by omega,e0,e2,e3,e7,rfl,rfl,rfl,rfl,by rw[Ev,Qy c i et]⟩
    ·rintro E2 s2 ⟨k,hk,g0,g2,g3,g7,g4,g21,g22,g23,rfl⟩ -
     by_cases sC:k<4
     ·have I5:(k:Int)<4:=(by omega);have VF:(0:Int)<=(k:Int):=(by omega);have hk3:(k:Int)<((4:Nat):Int):=(by omega);have lu:(0:Int)<=(i:Int):=(by omega);refine jB (Ai @g23 (Ai @g22 (decide_eq_true I5))) ?_;refine wK fun K6 ll=>?_;refine jE ?_;refine dX ?_;refine ll _ _ ?_;clear ll K6;refine wK fun K7 v7=>?_;refine dH ?_;obtain⟨b,hb⟩:∃b,b=c.getD (4*i+k) 0:=⟨_,rfl⟩;have VP:c[4*i+k]? =some b:=by
       rw[hb,List.getD_eq_getElem?_getD,List.getElem?_eq_getElem (by omega)];rfl
      have xcX:=hXk k sC;rw[<-hb] at xcX;refine jB (Ai @g21 (Ai @g23 (Ai @VF (Ai @I5 (Ai @hk3 @xcX))))) ?_;obtain⟨v,hv⟩:∃v,v=xg c i k:=⟨_,rfl⟩;have hv3:v<16777216:=(by rw[hv];exact TC c i k (by omega));rw[<-hv];have hd:=Qz c i v et;have fO:(rowP c i v).set i (wV (v*256+b.toNat))=rowP c i (xg c i (k+1)):=(by rw[TA,rz c i k b VP,hv]);have hlen:=TB c i v hi;obtain⟨R,hR⟩:∃R,R=rowP c i v:=⟨_,rfl⟩;rw[<-hR] at hd fO hlen⊢;refine wE fun K hK=>?_;simp only[↓DN,Qa,Qb,Qc,Qd,Qe,Qf,Qg,Qh,reduceCtorEq,↓reduceIte,Na,Nb,Nc,Nk,Nf,Ng,Nh,Za,Zb,Zc,TT,g3,g4,lu,kR,LN,hd,cU,Z6 v b hv3,fO,hlen,et];refine⟨by omega,hK _ _ ?_⟩;clear hK K;simp only[dn,dJ,if_true,if_false];refine v7 _ _ ?_;clear v7 K7;refine jD (Ai @g23 (fy k (by omega))) ?_;refine⟨⟨k+1,by omega,g0,g2,g3,g7,g4,g21,g22,rfl,rfl⟩,?_⟩;simp only[g23,dY,↓reduceIte];omega
     ·have I5:¬(k:Int)<4:=(by omega);obtain rfl:k=4:=(by omega);refine jB (Ai @g23 (Ai @g22 (decide_eq_false I5))) ?_;refine wK fun K6 ll=>?_;refine jF ?_;refine ep ?_;simp only[dJ,dn,if_true];clear ll K6;refine mE _ _ ?_;clear mE K5;refine ep ?_;simp only[dJ,dn,if_true];rw[NW c (Sha.rE c i) i VR hc];have :rowP c i (Sha.word c (Sha.rE c i) i)=row c (i+1):=CF c i et;rw[this];exact GM _ g0 g2 g3 g7
   ·have TE:¬(i:Int)<16:=(by omega);have lu:(0:Int)<=(i:Int):=(by omega);refine jB (Ai @e0 (Ai @e7 @q64)) ?_;refine wC fun X Y hX hY=>?_;simp only[UP,DF,Nc,↓reduceIte,DB];refine⟨fun h=>absurd h TE,fun _=>hY ?_⟩;clear hX hY X Y;refine dX ?_;refine jm _ _ ?_;clear jm K4;have n2:(0:Int)<=((i-2:Nat):Int):=(by omega);have n7:(0:Int)<=((i-7:Nat):Int):=(by omega);have n15:(0:Int)<=((i-15:Nat):Int):=(by omega);have n16:(0:Int)<=((i-16:Nat):Int):=(by omega);have m2:((i-2:Nat):Int)<((64:Nat):Int):=(by omega);have m7:((i-7:Nat):Int)<((64:Nat):Int):=(by omega);have Yi:((i-15:Nat):Int)<((64:Nat):Int):=(by omega);have Ww:((i-16:Nat):Int)<((64:Nat):Int):=(by omega);have s2:gR .i64 (i:Int) 2=((i-2:Nat):Int):=ju i 2 (by omega) (by omega);have s7:gR .i64 (i:Int) 7=((i-7:Nat):Int):=ju i 7 (by omega) (by omega);have s15:gR .i64 (i:Int) 15=((i-15:Nat):Int):=ju i 15 (by omega) (by omega);have P2:gR .i64 (i:Int) 16=((i-16:Nat):Int):=ju i 16 (by omega) (by omega);have d2:=pF c i (i-2) (by omega);have d7:=pF c i (i-7) (by omega);have d15:=pF c i (i-15) (by omega);have d16:=pF c i (i-16) (by omega);have hw:Sha.word c (Sha.rE c i) i=Sha.j9 (Sha.j9 (Sha.j9 (Sha.IA ((Sha.rE c i).getD (i-2) 0) 17 19 10) ((Sha.rE c i).getD (i-7) 0)) (Sha.IA ((Sha.rE c i).getD (i-15) 0) 7 18 3)) ((Sha.rE c i).getD (i-16) 0):=(by rw[Sha.word,if_neg VR]);have fO:=CF c i et;rw[hw] at fO;have hlen:=gU c i hi;have l2:=Sha.sf c i (i-2);have Wx:=Sha.sf c i (i-15);generalize (Sha.rE c i).getD (i-2) 0=x2 at *
    generalize (Sha.rE c i).getD (i-7) 0=x7 at *
    generalize (Sha.rE c i).getD (i-15) 0=x15 at *
    generalize (Sha.rE c i).getD (i-16) 0=x16 at *
    obtain⟨R,hR⟩:∃R,R=row c i:=⟨_,rfl⟩;rw[<-hR] at d2 d7 d15 d16 fO hlen⊢;refine gl T.mixed [(o3,R)] [5,15] [4,9,14,20] [23] (by kernel_rfl) (by simp only[dZ,ec,and_true];simp[AS.set,dY]) ?_;intro K hK;simp only[↓eN,↓eD,gY,gS,eg,ej,dZ,ec,List.any_cons,List.any_nil,List.contains_cons,List.contains_nil,Nat.reduceBEq,Bool.or_false,Bool.or_true,Bool.or_self,Bool.false_or,↓DN,Qa,Qb,Qc,Qd,Qe,Qf,Qg,Qh,reduceCtorEq,↓reduceIte,Na,Nb,Nc,Nk,Nf,Ng,Nh,Za,Zb,Zc,TT,e3,e7,lu,LN,n2,n7,n15,n16,m2,m7,Yi,Ww,s2,s7,s15,P2,d2,d7,d15,d16,ye];refine b6 (xf x2 17 19 10 l2 (by omega) (by omega) (by omega) (by omega) (by omega) (by omega) _) ?_;rintro r sa ⟨rfl,rfl⟩;simp only[↓fM,↓fi,eZ,↓eN,↓eD,gY,gS,eg,ej,dZ,ec,List.any_cons,List.any_nil,DX,Nat.reduceBEq,↓DN,Qa,Qb,Qc,Qd,Qe,Qf,Qg,Qh,reduceCtorEq,↓reduceIte,Na,Nb,Nc,Nk,Nf,Ng,Nh,Za,Zb,Zc,TT,e3,e7,lu,LN,n2,n7,n15,n16,m2,m7,Yi,Ww,s2,s7,s15,P2,d2,d7,d15,d16,ye,yX];refine b6 (xf x15 7 18 3 Wx (by omega) (by omega) (by omega) (by omega) (by omega) (by omega) _) ?_;rintro r sb ⟨rfl,rfl⟩;simp only[↓fM,↓fi,eZ,↓eN,↓eD,gY,gS,eg,ej,dZ,ec,List.any_cons,List.any_nil,DX,Nat.reduceBEq,↓DN,Qa,Qb,Qc,Qd,Qe,Qf,Qg,Qh,reduceCtorEq,↓reduceIte,Na,Nb,Nc,Nk,Nf,Ng,Nh,Za,Zb,Zc,TT,e3,e7,lu,LN,n2,n7,n15,n16,m2,m7,Yi,Ww,s2,s7,s15,P2,d2,d7,d15,d16,ye,yX,fO,hlen];refine⟨by omega,hK _ _ ?_⟩;clear hK K;simp only[dn,dJ,if_true,if_false];exact GM _ e0 e2 e3 e7
  ·have kR:¬(i:Int)<64:=(by omega);obtain rfl:i=64:=(by omega);refine jB (Ai @e7 (decide_eq_false kR)) ?_;refine wK fun K2 eH=>?_;refine jF ?_;refine ep ?_;simp only[dJ,dn,if_true];clear eH K2;refine hK _ _ ?_;clear hK K;rw[Lc c];have AB:((Sha.rE c 64).map wV).length=64:=(by simp[Sha.gH]);have fG:=Z7 (Sha.rE c 64);have ir:List.take 64 ((Sha.rE c 64).map wV)=(Sha.rE c 64).map wV:=List.take_of_length_le (by omega);obtain⟨X,hX⟩:∃X,X=(Sha.rE c 64).map wV:=⟨_,rfl⟩;rw[<-hX] at AB fG ir⊢;refine jS (Ai @e2 (Ai @e3 (Ai @AB (Ai @ir (Ai @fG (Ai @ye @ye.symm)))))) fun K hK=>?_;have LK:(row c 0).length=64:=gU c 0 (by omega);rw[fj (row c 0) X (by omega)];refine⟨by omega,hK _ _ ?_⟩;clear hK K;refine eF ?_;refine kJ (v:=.agg X) (o:=o2) (off:=0) e2 (AS.bG _ _ _) (by rw[T.xbJ];decide) (by simp only[↓DN,Qa,Qb,Qc,Qd,Qe,Qf,Qg,Qh,reduceCtorEq,↓reduceIte,Na,Nb,Nc,Nk,Nf,Ng,Nh,Za,Zb,Zc,TT,AB,ir]) ?_;exact⟨_,s,AV.dV.refl _,AS.dW (AS.dW (AS.dW (AS.le.refl s) tj _) FT _) tj _,rfl,rfl⟩
abbrev jZ(t:Sha.St):List AV:=[wV t.a,wV t.b,wV t.c,wV t.d,wV t.e,wV t.f,wV t.g,wV t.h]
theorem c8:((8:Nat):Int)=8:=rfl
theorem Ew(l:List Nat)(i:Nat)(h:i<l.length):(l.map wV)[i]? =some (wV (l.getD i 0)):=by
 rw[aM,ag h];simp[bf,ag h]
def Ex(t u:Sha.St)(i:Nat):List AV:=(jZ (t.add u)).take i++(jZ t).drop i
theorem GN(t u:Sha.St):Ex t u 0=jZ t:=rfl
theorem GO(t u:Sha.St):Ex t u 8=jZ (t.add u):=rfl
theorem Le(t u:Sha.St)(i:Nat)(h:i<=8):(Ex t u i).length=8:=by
 simp[Ex];omega
theorem at8{i:Nat}(h:i<8):i=0∨i=1∨i=2∨i=3∨i=4∨i=5∨i=6∨i=7:=oM
theorem GP(t u:Sha.St)(i:Nat)(h:i<8):aH i (Ex t u i)=wV (t.list.getD i 0)::(jZ t).drop (i+1):=by
 rcases at8 h with rfl|rfl|rfl|rfl|rfl|rfl|rfl|rfl<;>rfl
theorem Lf(t u:Sha.St)(i:Nat)(h:i<8):(Ex t u i).set i (wV (Sha.j9 (t.list.getD i 0) (u.list.getD i 0)))=Ex t u (i+1):=by
 rcases at8 h with rfl|rfl|rfl|rfl|rfl|rfl|rfl|rfl<;>rfl
theorem Ey(u:Sha.St)(i:Nat)(h:i<8):aH i (jZ u)=wV (u.list.getD i 0)::(jZ u).drop (i+1):=by
 rcases at8 h with rfl|rfl|rfl|rfl|rfl|rfl|rfl|rfl<;>rfl
theorem OL(u:Sha.St):(jZ u).all AV.one=true:=rfl
theorem QA(hG:Γ 1=Sha.K.map wV)(t:Sha.St)(ht:t.ok)(c:List UInt8)(hc:c.length=64)(s:AS):
  dS prog Γ 200 [.agg (jZ t),dm c .any] s (fun r s'=>r=.agg (jZ (Sha.mix t c))∧s'=s):=by
 refine fm func200 rfl ntmps200 results200 (by simp) ?_;refine jQ fun K hK=>?_;intro o2 tj o4 IC;refine hK _ _ ?_;clear hK K;obtain⟨QB,A5⟩:=AS.km IC;clear IC;refine jS (Ai @QB @QB.symm) fun K hK=>?_;intro o5 Cj;have TG:o5≠o4:=(by intro e;simp[e] at Cj);have Wy:o5≠o2:=(by intro e;subst e;simp[TG] at Cj);have NX:s.dD o5=none:=(by simpa[TG,Wy] using Cj);clear Cj;refine hK _ _ ?_;clear hK K;obtain⟨Z,hZ⟩:∃Z:List AV,Z=[wV 0,wV 0,wV 0,wV 0,wV 0,wV 0,wV 0,wV 0]:=⟨_,rfl⟩;have hZl:Z.length=8:=(by rw[hZ];rfl);rw[show([AV.v (.int .u32 0),AV.v (.int .u32 0),AV.v (.int .u32 0),AV.v (.int .u32 0),AV.v (.int .u32 0),AV.v (.int .u32 0),AV.v (.int .u32 0),AV.v (.int .u32 0)]:List AV)=Z from hZ.symm];refine wK fun K hK=>?_;refine jQ fun K hK=>?_;rw[show AV.sl 1 c.length (List.map cU c) .any=dm c .any from rfl];refine b6 (IB c hc _) ?_;rintro r sa ⟨rfl,rfl⟩;refine jR hK ?_;clear hK K;obtain⟨W,hW⟩:∃W,W=Sha.rE c 64:=⟨_,rfl⟩;have Kd:W.length=64:=(by rw[hW,Sha.gH]);rw[<-hW];refine dH ?_;refine dU (fun E s1=>∃i:Nat,i<=64∧E 2=.ptr o2 0∧E 4=.ptr o4 0∧E 5=.ptr o5 0∧E 15=.agg (W.map wV)∧E 16=.v (.int .i64 i)∧s1=((s.set o2 (jZ t)).set o4 Z).set o5 (jZ (Sha.rounds W t i)))
  (fun E _=>match E 16 with |.v (.int _ i)=>64-i.toNat|_=>0) ?_ ?_
 ·exact⟨0,by omega,by simp[dY],by simp[dY],by simp[dY],by simp[dY],by simp[dY],rfl⟩
 ·rintro E1 s1 ⟨i,hi,e2,e4,e5,Q6,OM,rfl⟩ -
  by_cases et:i<64
  ·have kR:(i:Int)<64:=(by omega);have LN:(i:Int)<((64:Nat):Int):=(by omega);have lu:(0:Int)<=(i:Int):=(by omega);refine jB (Ai @OM (decide_eq_true kR)) ?_;refine wK fun K2 eH=>?_;refine jE ?_;refine dX ?_;refine eH _ _ ?_;clear eH K2;refine wK fun K3 eX=>?_;refine dH ?_;have hwi:=Ew W i (by omega);have hki:=Ew Sha.K i (by rw[show Sha.K.length=64 from rfl];omega);have np:=Sha.A4 (w:=W) ht i;have XI:Sha.rounds W t (i+1)=(Sha.rounds W t i).step (Sha.K.getD i 0) (W.getD i 0):=rfl;generalize W.getD i 0=wi at *
   generalize Sha.K.getD i 0=ki at *
   generalize hu:Sha.rounds W t i=u at *
   have LU:List.drop i (Sha.K.map wV)=wV ki::List.drop (i+1) (Sha.K.map wV):=drop_cons _ _ _ hki;refine jB (Ai @Q6 (Ai @OM (Ai @lu (Ai @kR (Ai @LN @hwi))))) ?_;refine iT T.mixed [(o5,jZ u)] [] [1,3] [] (by kernel_rfl) (by simp only[dZ,ec,and_true];simp[AS.set,dY]) ?_;intro K hK;simp only[↓eN,↓eD,gY,gS,eg,ej,dZ,ec,List.any_cons,List.any_nil,List.contains_cons,List.contains_nil,Nat.reduceBEq,Bool.or_false,Bool.or_true,Bool.or_self,Bool.false_or,↓DN,Qa,Qb,Qc,Qd,Qe,Qf,Qg,Qh,reduceCtorEq,↓reduceIte,Na,Nb,Nc,Nk,Nf,Ng,Nh,Za,Zb,Zc,TT,e5,c8];refine hK _ _ ?_;clear hK K;refine iT T.mixed [(o5,jZ u)] [3] [1,7,12] [] (by kernel_rfl) (by simp only[dZ,ec,and_true];simp[AS.set,dY]) ?_;intro K hK;simp only[↓eN,↓eD,gY,gS,eg,ej,dZ,ec,List.any_cons,List.any_nil,List.contains_cons,List.contains_nil,Nat.reduceBEq,Bool.or_false,Bool.or_true,Bool.or_self,Bool.false_or,↓DN,Qa,Qb,Qc,Qd,Qe,Qf,Qg,Qh,reduceCtorEq,↓reduceIte,Na,Nb,Nc,Nk,Nf,Ng,Nh,Za,Zb,Zc,TT,e5,OM,c8];have NY:∀{a b:Nat},a<4294967296->b<4294967296->a &&& b<4294967296:=fun{a b}ha hb=>Nat.lt_of_le_of_lt Nat.and_le_left ha;have lx2:∀{a b:Nat},a<4294967296->b<4294967296->a ^^^ b<4294967296:=fun{a b}ha hb=>Nat.xor_lt_two_pow (n:=32) ha hb;have hn:4294967295-u.e<4294967296:=(by omega);refine b6 (zF u.e 6 11 25 np.e (by omega) (by omega) (by omega) (by omega) (by omega) (by omega) _) ?_;rintro r sb ⟨rfl,rfl⟩;simp only[↓fM,↓fi,eZ,↓eN,↓eD,gY,gS,eg,ej,dZ,ec,List.any_cons,List.any_nil,DX,Nat.reduceBEq,↓DN,Qa,Qb,Qc,Qd,Qe,Qf,Qg,Qh,reduceCtorEq,↓reduceIte,Na,Nb,Nc,Nk,Nf,Ng,Nh,Za,Zb,Zc,TT,e5,OM,c8,hG,LU,lu,LN,yX,FQ u.e u.f np.e np.f,xcV u.e np.e,FQ (4294967295-u.e) u.g hn np.g,uN (u.e &&& u.f) ((4294967295-u.e) &&& u.g) (NY np.e np.f) (NY hn np.g)];refine hK _ _ ?_;clear hK K;refine iT T.mixed [(o5,jZ u)] [1] [4,8,12,14] [] (by kernel_rfl) (by simp only[dZ,ec,and_true];simp[AS.set,dY]) ?_;intro K hK;simp only[↓eN,↓eD,gY,gS,eg,ej,dZ,ec,List.any_cons,List.any_nil,List.contains_cons,List.contains_nil,Nat.reduceBEq,Bool.or_false,Bool.or_true,Bool.or_self,Bool.false_or,↓DN,Qa,Qb,Qc,Qd,Qe,Qf,Qg,Qh,reduceCtorEq,↓reduceIte,Na,Nb,Nc,Nk,Nf,Ng,Nh,Za,Zb,Zc,TT,e5,c8];refine b6 (zF u.a 2 13 22 np.a (by omega) (by omega) (by omega) (by omega) (by omega) (by omega) _) ?_;rintro r sb ⟨rfl,rfl⟩;simp only[↓fM,↓fi,eZ,↓eN,↓eD,gY,gS,eg,ej,dZ,ec,List.any_cons,List.any_nil,DX,Nat.reduceBEq,↓DN,Qa,Qb,Qc,Qd,Qe,Qf,Qg,Qh,reduceCtorEq,↓reduceIte,Na,Nb,Nc,Nk,Nf,Ng,Nh,Za,Zb,Zc,TT,e5,c8,yX,FQ u.a u.b np.a np.b,FQ u.a u.c np.a np.c,FQ u.b u.c np.b np.c,uN (u.a &&& u.b) (u.a &&& u.c) (NY np.a np.b) (NY np.a np.c),uN ((u.a &&& u.b) ^^^ (u.a &&& u.c)) (u.b &&& u.c) (lx2 (NY np.a np.b) (NY np.a np.c)) (NY np.b np.c)];refine hK _ _ ?_;clear hK K;refine jD (Ai @e5 (Ai @c8 @yX)) ?_;simp only[dn,dJ,if_true,if_false];refine eX _ _ ?_;clear eX K3;refine jD (Ai @OM (fy i (by omega))) ?_;refine⟨⟨i+1,by omega,e2,e4,e5,Q6,rfl,?_⟩,?_⟩
   ·rw[XI];simp only[jZ,Sha.St.step,Sha.t1,Sha.t2]
   ·simp only[OM,dY,↓reduceIte];omega
  ·have kR:¬(i:Int)<64:=(by omega);obtain rfl:i=64:=(by omega);refine jB (Ai @OM (decide_eq_false kR)) ?_;refine wK fun K2 eH=>?_;refine jF ?_;refine ep ?_;simp only[dJ,dn,if_true];clear eH K2;refine hK _ _ ?_;clear hK K;have Wz:Sha.mix t c=t.add (Sha.rounds W t 64):=(by rw[hW];rfl);rw[Wz];generalize Sha.rounds W t 64=u;rw[<-GN t u];refine wK fun K hK=>?_;refine jA ?_;refine dH ?_;refine dU (fun E s1=>∃i:Nat,i<=8∧E 2=.ptr o2 0∧E 4=.ptr o4 0∧E 5=.ptr o5 0∧E 83=.v (.int .i64 i)∧s1.dD o2=some (Ex t u i)∧s1.dD o5=some (jZ u)∧s1.dD o4=some Z∧s.le s1)
    (fun E _=>match E 83 with |.v (.int _ i)=>8-i.toNat|_=>0) ?_ ?_
   ·refine⟨0,by omega,e2,e4,e5,rfl,?_,AS.bG _ _ _,?_,AS.dW (AS.dW (AS.dW (AS.le.refl s) tj _) A5 _) NX _⟩
    ·rw[AS.cO _ Wy.symm,AS.cO _ QB.symm,AS.bG]
    ·rw[AS.cO _ TG.symm,AS.bG]
   ·rintro E2 s2 ⟨i,hi,g2,g4,g5,g83,j2,j5,j4,hle⟩ -
    by_cases et:i<8
    ·have kR:(i:Int)<8:=(by omega);have lu:(0:Int)<=(i:Int):=(by omega);refine jB (Ai @g83 (decide_eq_true kR)) ?_;refine wK fun K2 eH=>?_;refine jE ?_;refine dX ?_;refine eH _ _ ?_;clear eH K2;refine wK fun K3 eX=>?_;refine dH ?_;refine jB @g83 ?_;have d2:=GP t u i et;have d5:=Ey u i et;have fO:=Lf t u i et;have hlen:=Le t u i hi;generalize t.list.getD i 0=x at *
     generalize u.list.getD i 0=y at *
     obtain⟨X,hX⟩:∃X,X=Ex t u i:=⟨_,rfl⟩;rw[<-hX] at d2 fO hlen j2;obtain⟨Y,hY⟩:∃Y,Y=jZ u:=⟨_,rfl⟩;rw[<-hY] at d5 j5;refine gl T.mixed [(o2,X),(o5,Y)] [] [2,5] [8] (by kernel_rfl) (by simp only[dZ,ec,and_true];simp[AS.set,dY,j2,j5]) ?_;intro K hK;simp only[↓eN,↓eD,gY,gS,eg,ej,dZ,ec,List.any_cons,List.any_nil,List.contains_cons,List.contains_nil,Nat.reduceBEq,Bool.or_false,Bool.or_true,Bool.or_self,Bool.false_or,↓DN,Qa,Qb,Qc,Qd,Qe,Qf,Qg,Qh,reduceCtorEq,↓reduceIte,Na,Nb,Nc,Nk,Nf,Ng,Nh,Za,Zb,Zc,TT,g2,g5,g83,c8,lu,kR,d2,d5,Wy,Wy.symm,j2,j5,yX,fO,hlen];refine⟨by omega,hK _ _ ?_⟩;clear hK K;simp only[dn,dJ,if_true,if_false];refine eX _ _ ?_;clear eX K3;refine jD (Ai @g83 (fy i (by omega))) ?_;refine⟨⟨i+1,by omega,g2,g4,g5,rfl,AS.bG _ _ _,by rw[AS.cO _ Wy,j5,hY],by rw[AS.cO _ QB];exact j4,AS.dW hle tj _⟩,?_⟩;simp only[g83,dY,↓reduceIte];omega
    ·have kR:¬(i:Int)<8:=(by omega);obtain rfl:i=8:=(by omega);refine jB (Ai @g83 (decide_eq_false kR)) ?_;refine wK fun K2 eH=>?_;refine jF ?_;refine ep ?_;simp only[dJ,dn,if_true];clear eH K2;refine hK _ _ ?_;clear hK K;rw[GO] at j2;have fG:=OL (t.add u);have hlen:(jZ (t.add u)).length=8:=rfl;have ir:List.take 8 (jZ (t.add u))=jZ (t.add u):=rfl;obtain⟨X,hX⟩:∃X,X=jZ (t.add u):=⟨_,rfl⟩;rw[<-hX] at j2 fG hlen ir⊢;refine jS (Ai @g2 (Ai @g4 (Ai @j2 (Ai @j4 (Ai @hlen (Ai @ir @fG)))))) fun K hK=>?_;rw[fj Z X (by omega)];refine⟨by omega,hK _ _ ?_⟩;clear hK K;refine eF ?_;refine kJ (v:=.agg X) (o:=o4) (off:=0) g4 (AS.bG _ _ _) (by rw[T.xbI];decide) (by simp only[↓DN,Qa,Qb,Qc,Qd,Qe,Qf,Qg,Qh,reduceCtorEq,↓reduceIte,Na,Nb,Nc,Nk,Nf,Ng,Nh,Za,Zb,Zc,TT,hlen,ir]) ?_;exact⟨_,s,AV.dV.refl _,AS.dW hle A5 _,rfl,rfl⟩
theorem xx:((0:Nat):Int)=0:=rfl
theorem NZ(n:Nat)(hn:n<=2^45)(s:AS):
  dS prog Γ 216 [.v (.slice none 0 0),.v (.int .i64 (n:Int))] s (fun r s'=>iN s [] r s'):=by
 refine xH func216 ntmps216 results216 ?_;have EZ:¬((n:Int)<0):=oM;have tM:gR .i64 (n:Int) (gR .i64 ((0:Nat):Int) ((0:Nat):Int))=(n:Int):=by
  rw[show gR .i64 ((0:Nat):Int) ((0:Nat):Int)=0 from dM,fD oM];omega
 refine yd fun K hK=>?_;refine jB (dF EZ) ?_;refine gW ?_;refine hK _ _<|wK fun K hK=>jB @tM ?_;have GJ:∀(E:Env)(r:AV)(s1:AS),E 0=r->iN s [] r s1->K E s1:=by
  intro E r s1 h0 h1;refine hK _ _ ?_;clear hK K;refine jB @h0 ?_;refine jI ?_;exact⟨_,_,AV.dV.refl _,AS.le.refl _,h1⟩
 clear hK;by_cases h0:n=0
 ·subst h0;refine jA ?_;refine wC fun X Y hX hY=>?_;simp only[UP,DF,Nc,↓reduceIte,DB];refine⟨fun h=>absurd h dM,fun _=>hY ?_⟩;refine dX ?_;exact GJ _ _ _ (by simp only[dY,eV,Nc,↓reduceIte];rfl) (iN.nil s)
 ·have hgt:(0:Int)<(n:Int):=oM;refine jB (dT hgt) ?_;refine jE<|Di (k:=.i64) (e:=5) (z:=[.v (.int .u8 0)]) rfl rfl rfl dM rfl rfl rfl dM underlying23 underlying23 underlying3 ⟨T.z5,by rw[T.c5];decide,by rw[T.c5];rfl⟩ T.c5 ?_;intro ops;refine jP @xx ?_;refine⟨n,rfl,h0,oM,oM,fun t v ht=>?_⟩;exact GJ _ (.sl 1 0 [] (.own t 0)) _ rfl ⟨AS.eE (AS.le.refl s) ht 0,.inr ⟨t,0,ht,AS.iR _ _ _,rfl⟩⟩
def mL(ls:List (List UInt8)):List AV:=ls.map fun l=>dm l .any
theorem Ez(ls:List (List UInt8))(i:Nat)(h:i<ls.length):aG 1 (aH i (mL ls))=[dm ls[i] .any]:=by
 have :(mL ls)[i]? =some (dm ls[i] .any):=(by simp[mL,h]);rw[drop_cons _ _ _ this];rfl
theorem GQ(ls:List (List UInt8))(i:Nat)(h:i<ls.length):(ls.take (i+1)).flatten=(ls.take i).flatten++ls[i]:=by
 rw[af h,List.flatten_append,List.flatten_cons,List.flatten_nil,bT]
theorem ON(ls:List (List UInt8))(i:Nat):(ls.take i).flatten.length<=ls.flatten.length:=by
 have :ls.flatten=(ls.take i).flatten++(ls.drop i).flatten:=(by rw[<-List.flatten_append,List.take_append_drop]);rw[this,ai];omega
theorem qj(ls:List (List UInt8))(sp:Sp)(hn:ls.length<=2^45)(hl:ls.flatten.length<=2^45)(s:AS):
  dS prog Γ 186 [.sl 1 ls.length (mL ls) sp] s (fun r s'=>iN s ls.flatten r s'):=by
 refine xH func186 ntmps186 results186 ?_;refine UL fun K hK=>?_;refine dU (fun E s1=>∃i:Nat,i<=ls.length∧E 0=.sl 1 ls.length (mL ls) sp∧E 3=.v (.int .i64 ((ls.take i).flatten.length:Nat))∧E 9=.sl 1 ls.length (mL ls) sp∧E 10=.v (.int .i64 ls.length)∧E 11=.v (.int .i64 i)∧s1=s)
  (fun E _=>match E 11 with |.v (.int _ i)=>ls.length-i.toNat|_=>0) ?_ ?_
 ·exact⟨0,aA _,by simp[dY,eV],by simp[dY],by simp[dY,eV],by simp[dY],by simp[dY],rfl⟩
 ·rintro E1 s1 ⟨i,hi,e0,e3,e9,Sr,wW,rfl⟩ -
  by_cases et:i<ls.length
  ·have fB:(i:Int)<(ls.length:Int):=oM;have gC:(0:Int)<=(i:Int):=oM;have uK:=ON ls (i+1);have uB:=GQ ls i et;have lr:=Ez ls i et;generalize ls[i]=l at *
   refine jB (Ai @Sr (Ai @wW (dT fB))) ?_;refine Ja fun K2 eH=>?_;refine eH _ _<|nF fun K3 eX=>?_;refine jB (Ai @e9 (Ai @wW (Ai @gC (Ai @fB @lr)))) ?_;have kv:iY .i64 ((ls.take i).flatten.length:Int) (l.length:Int)=((ls.take (i+1)).flatten.length:Int):=by
    rw[uB,ai];rw[uB,ai] at uK;exact gw _ _ oM
   refine jB (Ai @e3 @kv) ?_;have EZ:¬(((ls.take (i+1)).flatten.length:Int)<0):=oM;refine jB (dF EZ) ?_;refine gW ?_;simp only[dJ,dn,if_true,if_false];refine eX _ _<|jD (Ai @wW (fy i oM)) ?_;refine⟨⟨i+1,oM,e0,rfl,e9,Sr,rfl,rfl⟩,?_⟩;simp only[wW,dY,↓reduceIte];omega
  ·have fB:¬(i:Int)<(ls.length:Int):=oM;obtain rfl:i=ls.length:=oM;rw[ae (aw _)] at e3;refine jB (Ai @Sr (Ai @wW (dF fB))) ?_;refine Jb fun K2 eH=>?_;simp only[dJ,dn,if_true];refine hK _ _<|jS @e3 fun K hK=>?_;refine b6 (NZ ls.flatten.length hl _) ?_;intro r sa eU;refine jR hK ?_;refine wK fun K hK=>jB @e0 ?_;refine dH<|dU (fun E s2=>∃i:Nat,i<=ls.length∧E 25=.sl 1 ls.length (mL ls) sp∧E 26=.v (.int .i64 ls.length)∧E 27=.v (.int .i64 i)∧iN s1 (ls.take i).flatten (E 6) s2)
    (fun E _=>match E 27 with |.v (.int _ i)=>ls.length-i.toNat|_=>0) ?_ ?_
   ·exact⟨0,aA _,rfl,rfl,rfl,by simpa only[dY,Nc,↓reduceIte,List.take_zero,List.flatten_nil] using eU⟩
   ·rintro E2 s2 ⟨i,hi,g25,g26,g27,sN⟩ -
    by_cases et:i<ls.length
    ·have fB:(i:Int)<(ls.length:Int):=oM;have gC:(0:Int)<=(i:Int):=oM;have uK:=ON ls (i+1);have uB:=GQ ls i et;have lr:=Ez ls i et;generalize ls[i]=l at *
     refine jB (Ai @g26 (Ai @g27 (dT fB))) ?_;refine Ja fun K2 eH=>?_;refine eH _ _<|nF fun K3 eX=>?_;refine jB (Ai @g25 (Ai @g27 (Ai @gC (Ai @fB @lr)))) ?_;generalize zG:E2 6=r6 at sN;refine jU @zG fun K hK=>?_;have hb:(ls.take i).flatten.length+l.length<=2^45:=by
      rw[uB,ai] at uK;omega
     refine hJ sN rfl rfl T.c5 T.b5 hb ?_;intro r2 s3 BC;rw[<-uB] at BC;refine hK _ _ ?_;clear hK K;simp only[dJ,dn,if_true,if_false];refine eX _ _<|jD (Ai @g27 (fy i oM)) ?_;refine⟨⟨i+1,oM,g25,g26,rfl,by simpa only[dY,Nc,↓reduceIte] using BC⟩,?_⟩;simp only[g27,dY,↓reduceIte];omega
    ·have fB:¬(i:Int)<(ls.length:Int):=oM;obtain rfl:i=ls.length:=oM;rw[ae (aw _)] at sN;refine jB (Ai @g26 (Ai @g27 (dF fB))) ?_;refine Jb fun K2 eH=>?_;simp only[dJ,dn,if_true];refine hK _ _ ?_;generalize zG:E2 6=r6 at sN;refine jB @zG ?_;refine jI ?_;exact⟨_,_,AV.dV.refl _,AS.le.refl _,sN⟩
theorem gD{s s':AS}{l:List UInt8}{r:AV}(h:iN s l r s')(h0:l≠[]):∃t e,r=.sl 1 l.length (l.map cU) (.own t e):=by
 rcases h.2 with⟨rfl,_⟩|⟨t,e,_,_,rfl⟩
 ·exact absurd rfl h0
 ·exact⟨t,e,rfl⟩
theorem OO(a:Nat):mG (a:Int) 64=((a%64:Nat):Int):=mI a 64
theorem Lg(n j:Nat)(h:j<8):(Sha.Ci n)[j]? =some (ax (8*n/2^(8*(7-j)))):=by
 have :j=0∨j=1∨j=2∨j=3∨j=4∨j=5∨j=6∨j=7:=oM;rcases this with rfl|rfl|rfl|rfl|rfl|rfl|rfl|rfl<;>simp[Sha.Ci]
theorem Lh{α:Type}(l:List α)(j:Nat)(x:α)(h:l[j]? =some x):l.take (j+1)=l.take j++[x]:=by
 obtain⟨h1,h2⟩:=bD.1 h;rw[af h1,h2]
theorem CG(x:Nat):cU (ax x)=.v (.int .u8 (gq .u8 (x:Int))):=by
 rw[nh rfl];simp[cU,aF]
theorem WA(n j:Nat)(hj:j<8)(hn:n<=2^45):kE .i64 (mF .i64 8 (n:Int)) (mF .i64 8 ((7-j:Nat):Int))=((8*n/2^(8*(7-j)):Nat):Int):=by
 rw[iv oM,iv oM,show(8:Int)*(n:Int)=((8*n:Nat):Int) from oM,show(8:Int)*((7-j:Nat):Int)=((8*(7-j):Nat):Int) from oM,nq];simp only[aF];rw[Nat.min_eq_left oM]
theorem Yj{a b:Int}(h:a≠b):(a != b)=true:=by simpa using h
theorem Yk{a b:Int}(h:a=b):(a != b)=false:=by simpa using h
theorem WB(n:Nat)(hn:n<=2^45)(j:Nat)(hj:j<8):¬(mF .i64 8 ((7-j:Nat):Int)<0):=by
 rw[iv oM];omega
theorem ID(l:List UInt8)(hl:l.length<=2^44)(s s1:AS)(r0:AV)(h:iN s l r0 s1):
  dS prog Γ 199 [r0] s1 (fun r s'=>iN s (Sha.pad l) r s'):=by
 refine xH func199 ntmps199 results199 ?_;refine jA ?_;refine wS fun K hK=>?_;have hc:∀E:Env,E 0=r0->E 3=.v (.int .i64 l.length)->K E s1:=by
  intro E e0 e3;refine hK _ _ ?_;clear hK K;refine wS fun K hK=>?_;simp only[↓DN,Qa,Qb,Qc,Qd,Qe,Qf,Qg,Qh,seval,TT,e0,bA,cw];refine hJ (ds:=[128]) h rfl rfl T.c5 T.b5 (by simp;omega) ?_;intro r2 s2 h2;refine hK _ _ ?_;clear hK K;refine nF fun K hK=>?_;refine dU (fun E s2=>∃k:Nat,k<=Sha.m9 l.length∧E 3=.v (.int .i64 l.length)∧iN s (l++[128]++ad k 0) (E 0) s2)
   (fun E s2=>match E 0 with |.sl _ n _ _=>l.length+1+Sha.m9 l.length-n|_=>0) ?_ ?_
  ·exact⟨0,aA _,e3,by simpa only[dY,↓reduceIte,cc,bT] using h2⟩
  ·rintro E2 s3 ⟨k,hk,g3,sN⟩ -
   refine wK fun K2 eH=>?_;obtain⟨t,e,g0⟩:=gD sN sM;have hlen:(l++[128]++ad k 0).length=l.length+1+k:=(by simp;omega);generalize hL:l++[128]++ad k 0=L at *
   have hLn:L≠[]:=(by intro e';rw[e'] at hlen;simp only[aW] at hlen;omega);by_cases sC:k=Sha.m9 l.length
   ·have h56:L.length%64=56:=(by rw[hlen,sC,Sha.m9];omega);have hb:=Yk (show((L.length%64:Nat):Int)=56 by omega);refine jB (Ai @g0 (Ai @OO @hb)) ?_;refine xZ @hb<|ep ?_;simp only[dJ,dn,if_true];clear eH K2;refine hK _ _ ?_;rw[<-g0];refine Jc fun K hK=>?_;refine dU (fun E s2=>∃j:Nat,j<=8∧E 3=.v (.int .i64 l.length)∧E 4=.v (.int .i64 ((7:Int)-j))∧iN s (L++(Sha.Ci l.length).take j) (E 0) s2)
     (fun E s2=>match E 4 with |.v (.int _ i)=>(i+1).toNat|_=>0) ?_ ?_
    ·exact⟨0,oM,g3,rfl,by simpa only[dY,Nc,↓reduceIte,List.take_zero,bT] using sN⟩
    ·rintro E3 s4 ⟨j,hj,f3,f4,Ck⟩ -
     refine wK fun K2 eH=>?_;obtain⟨t',e',f0⟩:=gD Ck (by simp[hLn]);by_cases nH:j<8
     ·have gC:(0:Int)<=(7:Int)-j:=oM;refine jB (Ai @f4 (dT gC)) ?_;refine ue ?_;refine eH _ _ ?_;clear eH K2;refine nF fun K3 eX=>?_;have e7:(7:Int)-j=((7-j:Nat):Int):=oM;rw[e7] at f4;have Al:=WB l.length oM j nH;have LZ:=WA l.length j nH oM;generalize zG:E3 0=r6 at Ck;refine wE fun K hK=>?_;simp only[↓DN,Qa,Qb,Qc,Qd,Qe,Qf,Qg,Qh,seval,TT,zG,f3,f4,Al,LZ,bA,cw];refine hJ (ds:=[ax (8*l.length/2^(8*(7-j)))]) Ck rfl (by rw[aD,CG];rfl) T.c5 T.b5 (by rw[ai,aU,hlen];unfold Sha.m9 at hk;simp only[aY,aW];omega) ?_;intro r2 s5 h5;rw[a8,<-Lh _ _ _ (Lg l.length j nH)] at h5;refine hK _ _ ?_;clear hK K;simp only[dJ,dn,if_true,if_false];refine eX _ _ ?_;have xg4:gR .i64 ((7-j:Nat):Int) 1=(7:Int)-((j+1:Nat):Int):=by
       rw[fD oM];omega
      refine jD (Ai @f4 @xg4) ?_;refine⟨⟨j+1,oM,f3,rfl,by simpa only[dY,Nc,↓reduceIte] using h5⟩,?_⟩;simp only[f4,dY,↓reduceIte];omega
     ·have gC:¬(0:Int)<=(7:Int)-j:=oM;obtain rfl:j=8:=oM;refine jB (Ai @f4 (dF gC)) ?_;refine sI ?_;simp only[dJ,dn,if_true];clear eH K2;refine hK _ _ ?_;have tB:L++(Sha.Ci l.length).take 8=Sha.pad l:=by
       rw[<-hL,sC,Sha.pad,show(Sha.Ci l.length).take 8=Sha.Ci l.length from rfl];simp
      rw[tB] at Ck;generalize zG:E3 0=r6 at Ck;refine jB @zG ?_;refine jI ?_;exact⟨_,_,AV.dV.refl _,AS.le.refl _,Ck⟩
   ·have h56:L.length%64≠56:=(by rw[hlen];unfold Sha.m9 at hk sC;omega);have hb:=Yj (show((L.length%64:Nat):Int)≠56 by omega);refine jB (Ai @g0 (Ai @OO @hb)) ?_;refine xY @hb<|dX<|eH _ _<|dH ?_;generalize zG:E2 0=r6 at sN;refine wE fun K hK=>?_;simp only[↓DN,Qa,Qb,Qc,Qd,Qe,Qf,Qg,Qh,seval,TT,zG,bA,cw];refine hJ (ds:=[0]) sN rfl rfl T.c5 T.b5 (by rw[hlen];unfold Sha.m9 at hk;simp;omega) ?_;intro r2 s2 h2;have hL2:L++[0]=l++[128]++ad (k+1) 0:=(by rw[<-hL,List.replicate_succ',a8 _ (ad k 0)]);rw[hL2] at h2;refine hK _ _ ?_;simp only[dJ,dn,if_true,if_false];obtain⟨t2,e2,q0⟩:=gD h2 sM;refine⟨⟨k+1,oM,g3,by simpa only[dY,↓reduceIte] using h2⟩,?_⟩;rw[zG] at g0;simp only[dY,↓reduceIte,zG,q0,g0,ai,cR,aY,aW,hlen];omega
 rcases h.2 with⟨rfl,rfl⟩|⟨t,e,_,_,rfl⟩
 ·refine jM ?_;exact hc _ (by simp only[dY,eV,Nc,↓reduceIte];rfl) rfl
 ·refine jM ?_;exact hc _ (by simp only[dY,eV,Nc,↓reduceIte];rfl) rfl
def vJ(cs:List AV)(i:Nat):AV:=.sl 1 64 (aH (64*i) (aG (64*i+64) cs)) .full
theorem Li(cs:List AV)(t e m:Nat)(hl:cs.length=64*m)(hm:m<=2^40):
  Xx prog Γ 232 [.ij [.sl 1 (64*m) cs (.own t e)],.ij [.v (.int .i64 64)]] ((aq m).map (vJ cs)):=by
 intro S l G W lb Ap Y0 hs hy
 refine callsIn_of_wp func232 rfl trivial ?_
 have Ze:=Rel.entry (N:=31) (args:=[.v (.func (.yield l) #[] #[]),.ij [.sl 1 (64*m) cs (.own t e)],.ij [.v (.int .i64 64)]]) (vs:=.func (.yield l) #[] #[]::lb) hs (by simp only[dP];exact⟨_,_,rfl,by simp[dQ],by simpa only[dP] using Y0⟩) sM Ap
 rw[show(#[.func (.yield l) #[] #[]]++lb.toArray:Array Value)=(.func (.yield l) #[] #[]::lb).toArray from sM,ntmps232]
 refine wpIn_seq ?_
 refine qU (l:=none) (K:=fun E1 s1=>E1 0=.v (.func (.yield l) #[] #[])∧E1 1=.ij [.sl 1 (64*m) cs (.own t e)]∧E1 2=.ij [.v (.int .i64 64)]∧E1 4=.v (.int .i64 0)∧s1=S 0) ?_ Ze ?_
 ·simp only[↓DN,Qa,Qb,Qc,Qd,Qe,Qf,Qg,Qh,seval,TT]
 ·rintro G0 E0 s0 a0 w0 WC LK ⟨e0,e1,e2,e4,rfl⟩
  refine wpIn_block ?_
  refine wpIn_loop (fun a w=>∃(i:Nat)(G1:Gh)(E1:Env),i<=m∧G.le G1∧Rel Γ 31 G1 E1 (S i) a w∧E1 0=.v (.func (.yield l) #[] #[])∧E1 1=.ij [.sl 1 (64*m) cs (.own t e)]∧E1 2=.ij [.v (.int .i64 64)]∧E1 4=.v (.int .i64 ((64*i:Nat):Int)))
   (fun a _=>match a.tmps.getD 4 undef with |.int _ x=>64*m-x.toNat|_=>0) ⟨0,G0,E0,aA _,WC,LK,e0,e1,e2,e4⟩ ?_
  rintro a w ⟨i,G1,E1,hi,hle,hr,e0,e1,e2,e4⟩
  have Yl:a.tmps.getD 4 undef=.int .i64 ((64*i:Nat):Int):=by
   have:=hr.tmps 4
   rw[e4] at this
   simpa only[dQ] using this
  refine wpIn_seq ?_
  by_cases et:i<m
  ·have fB:((64*i:Nat):Int)<((64*m:Nat):Int):=oM
   refine fY.wide (Q:=fun x E' s'=>x=.normal∧s'=S i∧E' 0=.v (.func (.yield l) #[] #[])∧E' 1=.ij [.sl 1 (64*m) cs (.own t e)]∧E' 2=.ij [.v (.int .i64 64)]∧E' 4=.v (.int .i64 ((64*i:Nat):Int))) ?_ hr ?_
   ·refine jB (Ai @e1 (Ai @e4 (dT fB))) ?_
    refine jE ?_
    refine dX ?_
    simp only[dY,e0,e1,e2,e4,Nc,↓reduceIte,and_self]
   ·rintro x G2 E2 s2 a2 w2 iL vR ⟨rfl,rfl,f0,f1,f2,f4⟩
    refine wpIn_seq (wpIn_block (wpIn_seq ?_))
    have h0:(0:Int)<=((64*i:Nat):Int):=oM
    have mi:((64*i:Nat):Int)<=((64*m:Nat):Int):=oM
    refine fY.wide (Q:=fun x E' s'=>x=.normal∧s'=S i∧E' 0=.v (.func (.yield l) #[] #[])∧E' 1=.ij [.sl 1 (64*m) cs (.own t e)]∧E' 2=.ij [.v (.int .i64 64)]∧E' 4=.v (.int .i64 ((64*i:Nat):Int))∧E' 5=.v (.int .i64 64)) ?_ vR ?_
    ·have C0:¬(((64*m-64*i:Nat):Int)<64):=oM
     refine iw T.mixed [] kM ?_
     intro K hK
     refine jV (Ai @f1 (Ai @f2 (Ai @f4 (Ai @h0 (Ai @mi (Ai @Int.le_refl @C0)))))) hK ?_
     simp only[dY,f0,f1,f2,f4,Nc,↓reduceIte,and_self]
    ·rintro x G3 E3 s3 a3 w3 Ym wN ⟨rfl,rfl,g0,g1,g2,g4,g5⟩
     refine wpIn_seq ?_
     have PY:iY .i64 ((64*i:Nat):Int) 64=((64*i+64:Nat):Int):=gw (64*i) 64 oM
     have He:((64*i:Nat):Int)<=((64*i+64:Nat):Int):=oM
     have I4:((64*i+64:Nat):Int)<=((64*m:Nat):Int):=oM
     refine Aq (l:=l)
      (K1:=fun E' s'=>s'=S i∧E' 0=.v (.func (.yield l) #[] #[])∧E' 1=.ij [.sl 1 (64*m) cs (.own t e)]∧E' 2=.ij [.v (.int .i64 64)]∧E' 4=.v (.int .i64 ((64*i:Nat):Int))∧E' 28=vJ cs i)
      (K2:=fun E' s'=>s'=S (i+1)∧E' 0=.v (.func (.yield l) #[] #[])∧E' 1=.ij [.sl 1 (64*m) cs (.own t e)]∧E' 2=.ij [.v (.int .i64 64)]∧E' 4=.v (.int .i64 ((64*i:Nat):Int))∧E' 30=.v (.bool false))
      rfl rfl dM ?_ wN ?_ ?_
     ·intro ops
      simp only[↓DN,Qa,Qb,Qc,Qd,Qe,Qf,Qg,Qh,seval,TT,g0,g1,g2,g4,g5,PY,h0,He,I4]
      rw[vJ,show 64*i+64-64*i=64 by omega]
     ·rintro ops G4 E4 s4 a4 w4 ie I8 ⟨rfl,k0,k1,k2,k4,k28⟩
      have hu:=I8.tmps 28
      rw[k28] at hu
      obtain⟨fn,tmps,assign,body,q1,q2⟩:=hy i (vJ cs i) G4 (a4.tmps.getD 28 undef) w4 (by simp[et]) (hle.trans (iL.trans (Ym.trans ie))) I8.st hu
      refine⟨fn,tmps,assign,body,q1,RoundIn.mono (F:=bR) q2 ?_⟩
      rintro e' W' ⟨rfl,G5,b1,b2⟩
      refine⟨rfl,G5,S (i+1),b1,b2,?_⟩
      simp only[↓DN,Qa,Qb,Qc,Qd,Qe,Qf,Qg,Qh,seval,TT]
      simp only[dY,k0,k1,k2,k4,Nc,↓reduceIte,and_self]
     ·rintro G4 E4 s4 a4 w4 ie I8 ⟨rfl,k0,k1,k2,k4,k30⟩
      show Code.wpIn bR 0 _ (Code.cond _ _ _) _ a4 w4
      refine fY.wide (Q:=fun x E' s'=>x=.normal∧s'=S (i+1)∧E' 0=.v (.func (.yield l) #[] #[])∧E' 1=.ij [.sl 1 (64*m) cs (.own t e)]∧E' 2=.ij [.v (.int .i64 64)]∧E' 4=.v (.int .i64 ((64*i:Nat):Int))) ?_ I8 ?_
      ·refine lK k30 (dX ?_)
       simp only[k0,k1,k2,k4,and_self]
      ·rintro x G5 E5 s5 a5 w5 ly Vp ⟨rfl,rfl,q0,q1,q2,q4⟩
       show Code.wpIn bR 0 _ (Code.region _ _ _) _ a5 w5
       refine qU (l:=none) (K:=fun E' s'=>s'=S (i+1)∧E' 0=.v (.func (.yield l) #[] #[])∧E' 1=.ij [.sl 1 (64*m) cs (.own t e)]∧E' 2=.ij [.v (.int .i64 64)]∧E' 4=.v (.int .i64 ((64*(i+1):Nat):Int))) ?_ Vp ?_
       ·simp only[↓DN,Qa,Qb,Qc,Qd,Qe,Qf,Qg,Qh,seval,TT,q0,q1,q2,q4,PY]
        rfl
       ·rintro G6 E6 s6 a6 w6 mY zG ⟨rfl,p0,p1,p2,p4⟩
        refine⟨⟨i+1,G6,E6,et,hle.trans (iL.trans (Ym.trans (ie.trans (ly.trans mY)))),zG,p0,p1,p2,p4⟩,?_⟩
        have:=zG.tmps 4
        rw[p4] at this
        simp only[dQ] at this
        rw[this,Yl]
        simp only[Int.toNat_natCast]
        omega
  ·obtain rfl:i=m:=oM
   have fB:¬((64*i:Nat):Int)<((64*i:Nat):Int):=oM
   refine fY.wide (Q:=fun x E' s'=>x=.exit 0∧s'=S i) ?_ hr ?_
   ·refine jB (Ai @e1 (Ai @e4 (dF fB))) ?_
    refine jF ?_
    refine ep ?_
    exact⟨rfl,rfl⟩
   ·rintro x G2 E2 s2 a2 w2 iL vR ⟨rfl,rfl⟩
    refine⟨vR.defers.trans (iL.df.trans (hle.df.trans Ap)),.tuple #[],?_,⟨_,rfl⟩,G2,hle.trans iL,by simpa using vR.st⟩
    rw[qR,results232]
    simp
theorem Lj(cs:List AV)(n t e:Nat)(s:AS):
  aI prog Γ 198 [.sl 1 n cs (.own t e),.v (.int .i64 64)] s (.wm 232 [.ij [.sl 1 n cs (.own t e)],.ij [.v (.int .i64 64)]]):=by
 refine xH func198 ntmps198 results198 ?_;refine nQ 2 3 dM dM dM ?_;intro K hK;refine jM ?_;intro o1 h1 o2 h2;refine hK _ _ o1 o2 _ _ rfl rfl h1 (by rw[AS.pj];exact h2) ?_;refine Q3 fun K hK=>?_;refine hK _ _<|jA ?_;exact jJ
theorem GR(l:List UInt8)(i:Nat)(h:64*(i+1)<=l.length):vJ (l.map cU) i=.sl 1 64 ((Sha.sZ l i).map cU) .full∧(Sha.sZ l i).length=64:=by
 have e1:Sha.sZ l i=aH (64*i) (aG (64*i+64) l):=by
  rw[Sha.sZ,List.drop_take];congr 1;omega
 constructor
 ·rw[vJ,e1];simp only[List.map_drop,List.map_take]
 ·simp only[Sha.sZ,aU,List.length_drop];omega
def QC(t:Sha.St)(i:Nat):List UInt8:=((t.list.take i).map Sha.be).flatten
theorem GS(t:Sha.St)(i:Nat)(h:i<8):QC t i++Sha.be (t.list.getD i 0)=QC t (i+1):=by
 rcases at8 h with rfl|rfl|rfl|rfl|rfl|rfl|rfl|rfl<;>rfl
theorem WD(x:AV):ad 4 x=[x,x,x,x]:=rfl
theorem GU(t:Sha.St):QC t 8=t.bytes:=rfl
theorem Lk(t:Sha.St)(i:Nat)(h:i<=8):(QC t i).length=4*i:=by
 rcases Nat.lt_or_ge i 8 with h'|h'
 ·rcases at8 h' with rfl|rfl|rfl|rfl|rfl|rfl|rfl|rfl<;>rfl
 ·obtain rfl:i=8:=oM;rfl
theorem WE(t:Sha.St)(i:Nat)(h:i<8):(jZ t)[i]? =some (wV (t.list.getD i 0)):=by
 rcases at8 h with rfl|rfl|rfl|rfl|rfl|rfl|rfl|rfl<;>rfl
theorem qD(jg:Γ 0=jZ Sha.H0)(hG:Γ 1=Sha.K.map wV)(ls:List (List UInt8))(sp:Sp)(hn:ls.length<=2^40)(hl:ls.flatten.length<=2^40)(s:AS):
  dS prog Γ 164 [.sl 1 ls.length (mL ls) sp] s (fun r s'=>iN s (Sha.sum ls.flatten) r s'):=by
 generalize uK:ls.flatten=l at *
 have hf:=func164
 refine ud hf rfl (by rw[ntmps164];simp) ?_
 rw[ntmps164]
 intro G a w Ap hr
 refine wpIn_seq ?_
 refine qU (l:=none) (K:=fun E' s'=>s'=s∧E' 0=.sl 1 ls.length (mL ls) sp) ?_ hr ?_
 ·simp only[↓DN,Qa,Qb,Qc,Qd,Qe,Qf,Qg,Qh,seval,TT]
 ·rintro G1 E1 s1 a1 w1 uL wM ⟨rfl,e0⟩
  refine wpIn_seq ?_
  refine qU (l:=none) (K:=fun E' s'=>∃o3,s1.dD o3=none∧s'=s1.set o3 (jZ Sha.H0)∧E' 0=.sl 1 ls.length (mL ls) sp∧E' 3=.ptr o3 0) ?_ wM ?_
  ·simp only[↓DN,Qa,Qb,Qc,Qd,Qe,Qf,Qg,Qh,seval,TT,jg]
   intro o ho
   exact⟨o,ho,rfl,e0,rfl⟩
  ·rintro G2 E2 s2 a2 w2 iL vR ⟨o3,FR,rfl,f0,f3⟩
   refine wpIn_seq (wpIn_seq ?_)
   have Cu:=Sha.xX l
   have hpm:=Sha.OJ l
   obtain⟨m,hm⟩:∃m,(Sha.pad l).length=64*m:=⟨(Sha.pad l).length/64,oM⟩
   have hz:Sha.m9 l.length<64:=by rw[Sha.m9];omega
   refine qU (l:=none) (K:=fun E' s'=>∃t e,(s1.set o3 (jZ Sha.H0)).le s'∧E' 3=.ptr o3 0∧E' 12=.wm 232 [.ij [.sl 1 (64*m) ((Sha.pad l).map cU) (.own t e)],.ij [.v (.int .i64 64)]]) ?_ vR ?_
   ·simp only[↓DN,Qa,Qb,Qc,Qd,Qe,Qf,Qg,Qh,seval,TT,f0]
    refine b6 (qj ls sp oM (by rw[uK];omega) _) ?_
    intro r sa eU
    rw[uK] at eU
    simp only[↓DN,Qa,Qb,Qc,Qd,Qe,Qf,Qg,Qh,seval,TT]
    refine b6 (ID l oM _ _ _ eU) ?_
    intro r sb eU
    obtain⟨t,e,LK⟩:=gD eU (by rw[<-List.length_pos_iff];omega)
    rw[LK,hm] at *
    simp only[↓DN,Qa,Qb,Qc,Qd,Qe,Qf,Qg,Qh,seval,TT]
    refine b6 (Lj _ _ t e _) ?_
    rintro r sc ⟨rfl,rfl⟩
    simp only[↓DN,Qa,Qb,Qc,Qd,Qe,Qf,Qg,Qh,seval,TT]
    exact⟨t,e,eU.1,f3,rfl⟩
   ·rintro G3 E3 s3 a3 w3 mi wN ⟨t,e,hse,g3,g12⟩
    refine wpIn_block ?_
    have OP:G.le G3:=uL.trans (iL.trans mi)
    have xc0:G3.df=[]:=OP.df.trans Ap
    have Yn:s3.dD o3=some (jZ Sha.H0):=hse.dD _ _ (AS.bG _ _ _)
    have xc1:m<=2^40:=oM
    refine wpIn_mono (Dg (p:=13) (g:=.tmp 12) wN xc0 g12 kM (Li ((Sha.pad l).map cU) t e m (by simpa using hm) xc1) dM (fun i=>s3.set o3 (jZ (Sha.hash (Sha.pad l) i))) (AS.RR Yn) (fun x=>dY (dY E3 13 x) 4 x) ?_ ?_) ?_
    ·rintro lp i x G4 a4 W hx I8
     refine qU (l:=some lp) (K:=fun E' s'=>E'=dY (dY E3 13 x) 4 x∧s'=s3.set o3 (jZ (Sha.hash (Sha.pad l) i))) ?_ I8 ?_
     ·simp only[↓DN,Qa,Qb,Qc,Qd,Qe,Qf,Qg,Qh,seval,TT]
     ·rintro G5 E5 s5 a5 w5 ly Vp ⟨rfl,rfl⟩
      exact⟨rfl,G5,ly,Vp⟩
    ·rintro lp i x G4 a4 W hx I8
     refine wpIn_block ?_
     have hi:i<m:=by
      have:=(bD.1 hx).1
      simpa using this
     obtain rfl:vJ ((Sha.pad l).map cU) i=x:=by simpa[hi] using hx
     obtain⟨hcv,mQ⟩:=GR (Sha.pad l) i oM
     refine qU (l:=some lp) (K:=fun E' s'=>s'=s3.set o3 (jZ (Sha.hash (Sha.pad l) (i+1)))) ?_ I8 ?_
     ·simp only[↓DN,Qa,Qb,Qc,Qd,Qe,Qf,Qg,Qh,seval,TT,g3]
      rw[hcv]
      have Pj:=QA hG (Sha.hash (Sha.pad l) i) (Sha.OK _ i) (Sha.sZ (Sha.pad l) i) mQ (s3.set o3 (jZ (Sha.hash (Sha.pad l) i)))
      rw[dm,mQ] at Pj
      refine b6 (dS.mB (.cons (.refl _) (.cons AV.fc .nil)) Pj) ?_
      rintro r sd ⟨rfl,rfl⟩
      simp only[↓DN,Qa,Qb,Qc,Qd,Qe,Qf,Qg,Qh,seval,TT,g3]
      rfl
     ·rintro G5 E5 s5 a5 w5 ly Vp rfl
      exact⟨rfl,G5,ly,Vp.st⟩
    ·rintro x a4 w4 ⟨rfl,D,G4,ie,hD,hDk,rfl,MB⟩
     have Pu:((aq m).map (vJ ((Sha.pad l).map cU))).length=m:=sM
     rw[Pu] at MB
     obtain⟨u,hu⟩:∃u,u=Sha.hash (Sha.pad l) m:=⟨_,rfl⟩
     have Z8:u.bytes=Sha.sum l:=by rw[hu,Sha.sum,hm,Nat.mul_div_cancel_left _ dM]
     rw[<-hu] at MB
     have Yo:s1.le (s3.set o3 (jZ u)):=by
      refine AS.dW (AS.le.trans ?_ hse) FR _
      exact AS.dW (AS.le.refl s1) FR _
     have IC:(s3.set o3 (jZ u)).dD o3=some (jZ u):=AS.bG _ _ _
     obtain⟨s4,xg5⟩:∃s4,s4=s3.set o3 (jZ u):=⟨_,rfl⟩
     rw[<-xg5] at MB Yo IC
     show Code.wpIn bR 0 _ _ _ _ w4
     refine fY.behind (Q:=fX prog f164.results.toList (fun r s'=>iN s1 (Sha.sum l) r s')) wN ie hDk MB xc0 ?_ ?_
     ·refine jA ?_
      refine wK fun K hK=>?_
      refine jB (Ai @g3 @IC) ?_
      refine dH ?_
      obtain⟨Z0,hZ0⟩:∃Z0,Z0=jZ u:=⟨_,rfl⟩
      refine dU (fun E s2=>∃i:Nat,i<=8∧E 17=.agg Z0∧E 18=.v (.int .i64 i)∧iN s1 (QC u i) (E 5) s2)
       (fun E _=>match E 18 with |.v (.int _ i)=>8-i.toNat|_=>0) ?_ ?_
      ·exact⟨0,oM,by simp only[dY,Nc,↓reduceIte,hZ0],by simp only[dY,↓reduceIte];rfl,Yo,.inl ⟨rfl,by simp only[dY,Nc,↓reduceIte]⟩⟩
      ·rintro E5 s5 ⟨i,hi,p17,p18,EA⟩ -
       by_cases et:i<8
       ·have kR:(i:Int)<8:=oM
        have lu:(0:Int)<=(i:Int):=oM
        refine jB (Ai @p18 (dT kR)) ?_
        refine wK fun K2 eH=>?_
        refine jE ?_
        refine dX ?_
        refine eH _ _ ?_
        refine wK fun K3 eX=>?_
        refine dH ?_
        have lr:=WE u i et
        rw[<-hZ0] at lr
        have uB:=GS u i et
        have VO:=Lk u i hi
        generalize u.list.getD i 0=x at *
        have XO:kE .u32 (x:Int) 24=((x/2^24:Nat):Int):=AG x 24 dM
        have P2:kE .u32 (x:Int) 16=((x/2^16:Nat):Int):=AG x 16 dM
        have s8:kE .u32 (x:Int) 8=((x/2^8:Nat):Int):=AG x 8 dM
        refine jB (Ai @p17 (Ai @p18 (Ai @lu (Ai @kR (Ai @c8 @lr))))) ?_
        generalize zG:E5 5=r6 at EA
        refine jU (Ai @zG (Ai @XO (Ai @P2 (Ai @s8 @WD)))) fun K hK=>?_
        refine hJ (ds:=Sha.be x) EA rfl (by simp only[Sha.be,aD,List.map_nil,CG]) T.c5 T.b5 (by rw[VO];simp only[Sha.be,aY,aW];omega) ?_
        intro r2 s6 h6
        rw[uB] at h6
        refine hK _ _ ?_
        clear hK
        simp only[dJ,dn,if_true,if_false]
        refine eX _ _ ?_
        refine jD (Ai @p18 (fy i oM)) ?_
        refine⟨⟨i+1,oM,by simp only[dY,p17,Nc,↓reduceIte],by simp only[dY,↓reduceIte],by simpa only[dY,Nc,↓reduceIte] using h6⟩,?_⟩
        simp only[p18,dY,↓reduceIte]
        omega
       ·have kR:¬(i:Int)<8:=oM
        obtain rfl:i=8:=oM
        refine jB (Ai @p18 (dF kR)) ?_
        refine wK fun K2 eH=>?_
        refine jF ?_
        refine ep ?_
        simp only[dJ,dn,if_true]
        clear eH K2
        refine hK _ _ ?_
        rw[GU,Z8] at EA
        generalize zG:E5 5=r6 at EA
        refine jB @zG ?_
        refine eF ?_
        rw[results164]
        simp only[fX,fe,fq,iu,ah,↓eL];try simp only[UP,DF,Nc,↓reduceIte,DT]
        exact⟨_,_,AV.dV.refl _,AS.le.refl _,EA⟩
     ·intro e5 G5 E5 s5 a5 w5 ly hD5 xg6 Vp Z9
      refine⟨?_,D,G5,E5,s5,OP.trans ly,?_,hD5,xg6,Vp,?_⟩
      ·cases e5<;>simp only[fX] at Z9<;>simp
      ·have q1:=wN.st.below.size
       have q2:=wN.st.base
       rw[OP.w0] at q1
       rw[OP.B] at q2
       exact⟨cB q1 hD,cB q2 hD⟩
      ·cases e5<;>simp only[fX] at Z9<;>exact Z9
theorem WG(n:Nat)(h:n<=2^45):mF .u64 (gq .u64 (n:Int)) 8=((8*n*2^(8*0)%18446744073709551616:Nat):Int):=by
 rw[nh rfl,show(8:Int)=((8:Nat):Int) from rfl,Hn rfl];simp only[aF];congr 1;omega
theorem TH(n j:Nat)(hj:j<8):gq .u8 (kE .u64 ((8*n*2^(8*j)%18446744073709551616:Nat):Int) 56)=gq .u8 ((8*n/2^(8*(7-j)):Nat):Int):=by
 rw[show(56:Int)=((56:Nat):Int) from rfl,nq,nh rfl,nh rfl];simp only[aF];congr 1;rw[show min 56 64=56 from rfl];have :j=0∨j=1∨j=2∨j=3∨j=4∨j=5∨j=6∨j=7:=oM;rcases this with rfl|rfl|rfl|rfl|rfl|rfl|rfl|rfl<;>simp only[Nat.reduceMul,Nat.reduceSub,cW]<;>omega
theorem WH(n j:Nat)(hj:j<8):oo .u64 ((8*n*2^(8*j)%18446744073709551616:Nat):Int) 8=((8*n*2^(8*(j+1))%18446744073709551616:Nat):Int):=by
 rw[show(8:Int)=((8:Nat):Int) from rfl,xv rfl];simp only[aF];congr 1;rw[show min 8 64=8 from rfl];have :j=0∨j=1∨j=2∨j=3∨j=4∨j=5∨j=6∨j=7:=oM;rcases this with rfl|rfl|rfl|rfl|rfl|rfl|rfl|rfl<;>simp only[Nat.reduceMul,Nat.reduceAdd,cW]<;>omega
theorem IE(l:List UInt8)(hl:l.length<=2^44)(s:AS):
  dS prog Γ 209 [.v (.string ⟨l.toArray⟩)] s (fun r s'=>iN s (Sha.pad l) r s'):=by
 refine xH func209 ntmps209 results209 ?_;refine jA ?_;refine HF rfl dM ?_;intro ops;refine jM ?_;refine⟨fun r s'=>iN s l r s',fun G a w hr=>?_,?_⟩
 ·exact HE (l:=l) (src:=9) (dst:=23) (e:=5) (x:=.tmp 6) rfl underlying9 underlying23 underlying5 (by simp only[ef,dY,↓reduceIte]) hr.eval hr.st
 intro r s1 h1;simp only[↓DN,Qa,Qb,Qc,Qd,Qe,Qf,Qg,Qh,seval,TT,bA,cw];refine hJ (ds:=[128]) h1 rfl rfl T.c5 T.b5 (by simp;omega) ?_;intro r2 s2 h2;refine nF fun K hK=>?_;refine dU (fun E s2=>∃k:Nat,k<=Sha.m9 l.length∧E 0=.v (.string ⟨l.toArray⟩)∧iN s (l++[128]++ad k 0) (E 3) s2)
  (fun E s2=>match E 3 with |.sl _ n _ _=>l.length+1+Sha.m9 l.length-n|_=>0) ?_ ?_
 ·exact⟨0,aA _,by simp only[dY,eV,Nc,↓reduceIte,List.getD_cons_zero],by simpa only[dY,↓reduceIte,cc,bT] using h2⟩
 ·rintro E2 s3 ⟨k,hk,g0',sN⟩ -
  refine wK fun K2 eH=>?_;obtain⟨t,e,g0⟩:=gD sN sM;have hlen:(l++[128]++ad k 0).length=l.length+1+k:=(by simp;omega);generalize hL:l++[128]++ad k 0=L at *
  have hLn:L≠[]:=(by intro e';rw[e'] at hlen;simp only[aW] at hlen;omega);by_cases sC:k=Sha.m9 l.length
  ·have h56:L.length%64=56:=(by rw[hlen,sC,Sha.m9];omega);have hb:=Yk (show((L.length%64:Nat):Int)=56 by omega);refine jB (Ai @g0 (Ai @OO @hb)) ?_;refine xZ @hb<|ep ?_;simp only[dJ,dn,if_true];clear eH K2;refine hK _ _ ?_;rw[<-g0];have VO:=WG l.length oM;refine jB (Ai @g0' (Ai @gK @VO)) ?_;refine Jc fun K hK=>?_;refine dU (fun E s2=>∃j:Nat,j<=8∧E 4=.v (.int .u64 ((8*l.length*2^(8*j)%18446744073709551616:Nat):Int))∧E 5=.v (.int .i64 j)∧iN s (L++(Sha.Ci l.length).take j) (E 3) s2)
    (fun E s2=>match E 5 with |.v (.int _ i)=>8-i.toNat|_=>0) ?_ ?_
   ·exact⟨0,oM,by simp only[dY,Nc,↓reduceIte,Nat.mul_zero,Nat.pow_zero,Nat.mul_one],rfl,by simpa only[dY,Nc,↓reduceIte,List.take_zero,bT] using sN⟩
   ·rintro E3 s4 ⟨j,hj,f4,f5,Ck⟩ -
    refine wK fun K2 eH=>?_;by_cases nH:j<8
    ·have gC:(j:Int)<8:=oM;refine jB (Ai @f5 (dT gC)) ?_;refine ue ?_;refine eH _ _ ?_;clear eH K2;refine nF fun K3 eX=>?_;have hby:=TH l.length j nH;have LZ:=WH l.length j nH;generalize 8*l.length*2^(8*j)%18446744073709551616=y at *
     generalize zG:E3 3=r6 at Ck;refine wS fun K hK=>?_;simp only[↓DN,Qa,Qb,Qc,Qd,Qe,Qf,Qg,Qh,seval,TT,zG,f4,hby,bA,cw];refine hJ (ds:=[ax (8*l.length/2^(8*(7-j)))]) Ck rfl (by rw[aD,CG];rfl) T.c5 T.b5 (by rw[ai,aU,hlen];unfold Sha.m9 at hk;simp only[aY,aW];omega) ?_;intro r2 s5 h5;rw[a8,<-Lh _ _ _ (Lg l.length j nH)] at h5;refine hK _ _ ?_;clear hK K;refine jD (Ai @f4 @LZ) ?_;simp only[dJ,dn,if_true,if_false];refine eX _ _<|jD (Ai @f5 (fy j oM)) ?_;refine⟨⟨j+1,oM,rfl,rfl,by simpa only[dY,Nc,↓reduceIte] using h5⟩,?_⟩;simp only[f5,dY,↓reduceIte];omega
    ·have gC:¬(j:Int)<8:=oM;obtain rfl:j=8:=oM;refine jB (Ai @f5 (dF gC)) ?_;refine sI ?_;simp only[dJ,dn,if_true];clear eH K2;refine hK _ _ ?_;have tB:L++(Sha.Ci l.length).take 8=Sha.pad l:=by
      rw[<-hL,sC,Sha.pad,show(Sha.Ci l.length).take 8=Sha.Ci l.length from rfl];simp
     rw[tB] at Ck;generalize zG:E3 3=r6 at Ck;refine jB @zG ?_;refine jI ?_;exact⟨_,_,AV.dV.refl _,AS.le.refl _,Ck⟩
  ·have h56:L.length%64≠56:=(by rw[hlen];unfold Sha.m9 at hk sC;omega);have hb:=Yj (show((L.length%64:Nat):Int)≠56 by omega);refine jB (Ai @g0 (Ai @OO @hb)) ?_;refine xY @hb<|dX<|eH _ _<|dH ?_;generalize zG:E2 3=r6 at sN;refine wE fun K hK=>?_;simp only[↓DN,Qa,Qb,Qc,Qd,Qe,Qf,Qg,Qh,seval,TT,zG,bA,cw];refine hJ (ds:=[0]) sN rfl rfl T.c5 T.b5 (by rw[hlen];unfold Sha.m9 at hk;simp;omega) ?_;intro r2 s2 h2;have hL2:L++[0]=l++[128]++ad (k+1) 0:=(by rw[<-hL,List.replicate_succ',a8 _ (ad k 0)]);rw[hL2] at h2;refine hK _ _ ?_;simp only[dJ,dn,if_true,if_false];obtain⟨t2,e2,q0⟩:=gD h2 sM;refine⟨⟨k+1,oM,g0',by simpa only[dY,↓reduceIte] using h2⟩,?_⟩;rw[zG] at g0;simp only[dY,↓reduceIte,zG,q0,g0,ai,cR,aY,aW,hlen];omega
theorem WI(a b c d:UInt8):L5 .u32 (L5 .u32 (L5 .u32 (oo .u32 (gq .u32 (a.toNat:Int)) 24) (oo .u32 (gq .u32 (b.toNat:Int)) 16)) (oo .u32 (gq .u32 (c.toNat:Int)) 8)) (gq .u32 (d.toNat:Int))=((Sha.NS a.toNat b.toNat c.toNat d.toNat:Nat):Int):=by
 have ha:=a.toNat_lt;have hb:=b.toNat_lt;have hc:=c.toNat_lt;have hd:=d.toNat_lt;have e1:∀x:UInt8,gq .u32 (x.toNat:Int)=(x.toNat:Int):=fun x=>by
  have:=x.toNat_lt;rw[nh rfl];simp only[aF];congr 1;omega
 have XO:∀x:Nat,x<256->oo .u32 (x:Int) 24=((x*16777216:Nat):Int):=fun x hx=>by
  have:=Tz x 24 dM;rw[show((24:Nat):Int)=24 from rfl] at this;rw[this];congr 1;simp only[cW];omega
 have P2:∀x:Nat,x<256->oo .u32 (x:Int) 16=((x*65536:Nat):Int):=fun x hx=>by
  have:=Tz x 16 dM;rw[show((16:Nat):Int)=16 from rfl] at this;rw[this];congr 1;simp only[cW];omega
 have s8:∀x:Nat,x<256->oo .u32 (x:Int) 8=((x*256:Nat):Int):=fun x hx=>by
  have:=Tz x 8 dM;rw[show((8:Nat):Int)=8 from rfl] at this;rw[this];congr 1;simp only[cW];omega
 rw[e1,e1,e1,e1];generalize a.toNat=a at *
 generalize b.toNat=b at *
 generalize c.toNat=c at *
 generalize d.toNat=d at *
 rw[XO a ha,P2 b hb,s8 c hc];have o1:a*16777216 ||| b*65536=a*16777216+b*65536:=by
  have:=di (b:=b*65536) (i:=24) (by simp only[cW];omega) a;rw[Nat.shiftLeft_eq] at this;simp only[cW] at this;exact this.symm
 have o2:(a*16777216+b*65536) ||| c*256=a*16777216+b*65536+c*256:=by
  have:=di (b:=c*256) (i:=16) (by simp only[cW];omega) (a*256+b);rw[Nat.shiftLeft_eq] at this;simp only[cW] at this;have e:(a*256+b)*65536=a*16777216+b*65536:=(by simp only[cV,cK,Nat.reduceMul]);rw[e] at this;exact this.symm
 have o3:(a*16777216+b*65536+c*256) ||| d=a*16777216+b*65536+c*256+d:=by
  have:=di (b:=d) (i:=8) (by simp only[cW];omega) (a*65536+b*256+c);rw[Nat.shiftLeft_eq] at this;simp only[cW] at this;have e:(a*65536+b*256+c)*256=a*16777216+b*65536+c*256:=(by simp only[cV,cK,Nat.reduceMul]);rw[e] at this;exact this.symm
 rw[wor _ _ oM oM,o1,wor _ _ oM oM,o2,wor _ _ oM oM,o3,Sha.NS];simp only[cV,cK,Nat.reduceMul]
structure Kp(oh m:Nat)(pl:List UInt8)(sp:Sp)(i:Nat)(E:Env):Prop where
 h3:E 3=.jd oh 0 1 8 8
 h4:E 4=.sl 1 64 (Sha.K.map wV) .no
 h5:E 5=.sl 1 (64*m) (pl.map cU) sp
 h6:E 6=.v (.int .i64 ((64*i:Nat):Int))
theorem Kp.dY{oh m i d:Nat}{pl:List UInt8}{sp:Sp}{E:Env}{v:AV}(h:Kp oh m pl sp i E)(hd:d≠3∧d≠4∧d≠5∧d≠6):Kp oh m pl sp i (dY E d v):=
 ⟨by rw[lE _ _ (bI hd.1)];exact h.h3,by rw[lE _ _ (bI hd.2.1)];exact h.h4,by rw[lE _ _ (bI hd.2.2.1)];exact h.h5,by rw[lE _ _ (bI hd.2.2.2)];exact h.h6⟩
structure Kq(ow:Nat)(E:Env):Prop where
 h7:E 7=.jd ow 0 1 64 64
theorem Kq.dY{ow d:Nat}{E:Env}{v:AV}(h:Kq ow E)(hd:d≠7):Kq ow (dY E d v):=⟨by rw[lE _ _ (bI hd)];exact h.h7⟩
structure Kr(cs:List AV)(sp:Sp)(E:Env):Prop where
 Tj:E 13=.sl 1 8 cs sp
theorem Kr.dY{cs:List AV}{sp:Sp}{d:Nat}{E:Env}{v:AV}(h:Kr cs sp E)(hd:d≠13):Kr cs sp (dY E d v):=⟨by rw[lE _ _ (bI hd)];exact h.Tj⟩
theorem xg7(l:List UInt8)(i:Nat)(h:i<l.length):aG 1 (aH i (l.map cU))=[.v (.int .u8 ((l.getD i 0).toNat:Int))]:=by
 have :(l.map cU)[i]? =some (cU (l.getD i 0)):=by
  rw[aM,ag h];simp only[Option.map_some,bf,ag h,Option.getD_some]
 rw[drop_cons _ _ _ this];rfl
theorem TI(l:List UInt8)(i:Nat)(h:i<l.length):List.map cU (aG 1 (aH i l))=[.v (.int .u8 ((l.getD i 0).toNat:Int))]:=by
 rw[List.map_take,List.map_drop];exact xg7 l i h
theorem TJ(l:List UInt8)(i j:Nat)(h:j<64)(hl:64*i+j<l.length):(Sha.sZ l i).getD j 0=l.getD (64*i+j) 0:=by
 simp only[Sha.sZ,aO,List.getElem?_take,if_pos h,cg]
theorem xg8(x:AV):ad 8 x=[x,x,x,x,x,x,x,x]:=rfl
theorem xc3(l:List Nat)(i:Nat)(h:i<l.length):aH i (l.map wV)=wV (l.getD i 0)::aH (i+1) (l.map wV):=drop_cons _ _ _ (Ew l i h)
theorem mz(l:List UInt8)(hl:l.length<=2^40)(s:AS):
  dS prog Γ 170 [.v (.string ⟨l.toArray⟩)] s (fun r s'=>r=.v (.string ⟨(Sha.sum l).toArray⟩)∧s'=s):=by
 refine fm func170 rfl ntmps170 results170 (by simp) ?_;refine jA ?_;refine HB rfl (by decide) (fun r s'=>∃ob,s.dD ob=none∧r=.jd ob 0 (prog.cellsOf 214) 8 8∧s'=s.set ob (jZ Sha.H0)) (fun G a w hr=>?_) ?_
 ·exact JU (cs:=jZ Sha.H0) (e:=214) rfl underlying227 T.xbH (by rw[T.J8];decide) (by rw[T.J8];decide) (by rw[T.J8];rfl) (by simp only[T.J8];rfl) hr.eval hr.st
 rw[T.J8];rintro r s1 ⟨oh,hoh,rfl,rfl⟩;refine jM ?_;refine jK (NV _) ?_;rintro s2 rfl;refine jQ fun K hK=>?_;refine b6 (IE l (by omega) _) ?_;intro r s1 eU;have Cu:=Sha.xX l;have hpm:=Sha.OJ l;obtain⟨m,hm⟩:∃m,(Sha.pad l).length=64*m:=⟨(Sha.pad l).length/64,by omega⟩;have hz:Sha.m9 l.length<64:=(by rw[Sha.m9];omega);have xc1:64*m<=2^41:=(by omega);obtain⟨tk,e,LK⟩:=gD eU (by rw[<-List.length_pos_iff];omega);rw[hm] at LK;subst LK;have hle:s.le s1:=AS.le.trans (AS.dW (AS.le.refl s) hoh _) eU.1;have uP:s1.dD oh=some (jZ Sha.H0):=eU.1.dD _ _ (AS.bG _ _ _);clear eU;refine jR hK ?_;clear hK K;have Vt:(Sha.hash (Sha.pad l) m).bytes=Sha.sum l:=(by rw[Sha.sum,hm,Nat.mul_div_cancel_left _ (by decide)]);obtain⟨pl,xg9⟩:∃pl,pl=Sha.pad l:=⟨_,rfl⟩;rw[<-xg9] at hm Vt⊢;refine wK fun K hK=>?_;refine jA ?_;refine dH ?_;refine dU (fun E s2=>∃i:Nat,i<=m∧Kp oh m pl (.own tk e) i E∧s2.dD oh=some (jZ (Sha.hash pl i))∧s.le s2)
  (fun E _=>match E 6 with |.v (.int _ x)=>64*m-x.toNat|_=>0) ?_ ?_
 ·exact⟨0,Nat.zero_le _,⟨rfl,rfl,rfl,rfl⟩,uP,hle⟩
 ·rintro E1 s2 ⟨i,hi,hk,ho,hle⟩ -
  have e6:=hk.h6;have Yl:=hk.h6;refine wK fun K2 eH=>?_;by_cases et:i<m
  ·have fB:((64*i:Nat):Int)<((64*m:Nat):Int):=(by omega);refine jB (Ai @e6 (Ai @hk.h5 (decide_eq_true fB))) ?_;refine jE ?_;refine dX ?_;refine eH _ _ ?_;clear eH K2;refine wK fun K3 eX=>?_;refine dH ?_;have mQ:(Sha.sZ pl i).length=64:=(GR pl i (by omega)).2;have hbg:∀j,j<64->(Sha.sZ pl i).getD j 0=pl.getD (64*i+j) 0:=fun j hj=>TJ pl i j hj (by omega);have hpg:∀j,j<64*m->List.map cU (List.take 1 (List.drop j pl))=[.v (.int .u8 ((pl.getD j 0).toNat:Int))]:=fun j hj=>TI pl j (by omega);obtain⟨c,hc⟩:∃c,c=Sha.sZ pl i:=⟨_,rfl⟩;rw[<-hc] at mQ hbg;have XI:Sha.hash pl (i+1)=Sha.mix (Sha.hash pl i) c:=(by rw[hc];rfl);have np:=Sha.OK pl i;generalize xkT:Sha.hash pl i=st at *
   refine jQ fun K hK=>?_;refine⟨by decide,by decide,fun ow how=>?_⟩;have hwh:ow≠oh:=(fun e'=>by rw[e',ho] at how;cases how);have Ll:s.dD ow=none:=by
    cases hs:s.dD ow with
    |none=>rfl
    |some cs=>rw[hle.dD _ _ hs] at how;cases how
   refine hK _ _ ?_;clear hK;rw[show List.replicate 64 (AV.v (.int .u32 0))=row c 0 from rfl];obtain⟨E2,hE2⟩:∃E2,E2=(dY (dY (dY (dY (dY (dY E1 24 (AV.v (Value.int IntKind.i64 ((64*i:Nat):Int)))) 25 (AV.sl 1 (64*m) (List.map cU pl) (Sp.own tk e))) 26 (AV.v (Value.int IntKind.i64 ((64*m:Nat):Int)))) 27 (AV.v (Value.bool true))) 30 (AV.jd ow 0 1 64 64)) 7 (AV.jd ow 0 1 64 64)):=⟨_,rfl⟩;have hk:Kp oh m pl (.own tk e) i E2:=by
    rw[hE2];repeat(first |exact hk|refine Kp.dY ?_ (by decide))
   have hq:Kq ow E2:=⟨by rw[hE2];simp only[dY,↓reduceIte]⟩;rw[<-hE2];clear hE2 e6;refine wK fun K4 jm=>?_;refine jA ?_;refine dH ?_;refine dU (fun E s3=>∃t:Nat,t<=16∧Kp oh m pl (.own tk e) i E∧Kq ow E∧E 8=.v (.int .i64 t)∧s3.dD ow=some (row c t)∧s3.dD oh=some (jZ st)∧s.le s3)
    (fun E _=>match E 8 with |.v (.int _ x)=>16-x.toNat|_=>0) ?_ ?_
   ·exact⟨0,by omega,(by repeat(first |exact hk|exact hq|refine Kp.dY ?_ (by decide)|refine Kq.dY ?_ (by decide))),(by repeat(first |exact hk|exact hq|refine Kp.dY ?_ (by decide)|refine Kq.dY ?_ (by decide))),rfl,AS.bG _ _ _,by rw[AS.cO _ hwh.symm];exact ho,AS.dW hle Ll _⟩
   ·rintro E3 s3 ⟨t,ht,hk,hq,g8,jw,jh,mi⟩ -
    refine wK fun K5 mE=>?_;by_cases ta:t<16
    ·have fB:(t:Int)<16:=(by omega);refine jB (Ai @g8 (decide_eq_true fB)) ?_;refine jE ?_;refine dX ?_;refine mE _ _ ?_;clear mE K5;refine wK fun K6 ll=>?_;refine dH ?_;have a0:iY .i64 ((64*i:Nat):Int) ((4*t:Nat):Int)=((64*i+4*t:Nat):Int):=gw _ _ (by omega);have a1:iY .i64 ((64*i+4*t:Nat):Int) 1=((64*i+4*t+1:Nat):Int):=gw _ 1 (by omega);have a2:iY .i64 ((64*i+4*t:Nat):Int) 2=((64*i+4*t+2:Nat):Int):=gw _ 2 (by omega);have a3:iY .i64 ((64*i+4*t:Nat):Int) 3=((64*i+4*t+3:Nat):Int):=gw _ 3 (by omega);have Lm:Sha.word c (Sha.rE c t) t=Sha.NS (pl.getD (64*i+4*t) 0).toNat (pl.getD (64*i+4*t+1) 0).toNat (pl.getD (64*i+4*t+2) 0).toNat (pl.getD (64*i+4*t+3) 0).toNat:=by
      rw[Sha.word,if_pos ta,hbg _ (by omega),hbg _ (by omega),hbg _ (by omega),hbg _ (by omega)];rfl
     have fO:=CF c t (by omega);rw[Lm] at fO;simp only[wV] at fO;rw[<-WI] at fO;have p0:=hpg (64*i+4*t) (by omega);have p1:=hpg (64*i+4*t+1) (by omega);have p2:=hpg (64*i+4*t+2) (by omega);have p3:=hpg (64*i+4*t+3) (by omega);have b0:((64*i+4*t:Nat):Int)<((64*m:Nat):Int):=(by omega);have b1:((64*i+4*t+1:Nat):Int)<((64*m:Nat):Int):=(by omega);have b2:((64*i+4*t+2:Nat):Int)<((64*m:Nat):Int):=(by omega);have b3:((64*i+4*t+3:Nat):Int)<((64*m:Nat):Int):=(by omega);have q0:(0:Int)<=((64*i+4*t:Nat):Int):=(by omega);have q1:(0:Int)<=((64*i+4*t+1:Nat):Int):=(by omega);have q2:(0:Int)<=((64*i+4*t+2:Nat):Int):=(by omega);have q3:(0:Int)<=((64*i+4*t+3:Nat):Int):=(by omega);have mg:(0:Int)<=(t:Int):=(by omega);have TK:(t:Int)<((64:Nat):Int):=(by omega);have hlen:=gU c t (by omega);generalize pl.getD (64*i+4*t) 0=x0 at *
     generalize pl.getD (64*i+4*t+1) 0=x1 at *
     generalize pl.getD (64*i+4*t+2) 0=x2 at *
     generalize pl.getD (64*i+4*t+3) 0=x3 at *
     obtain⟨R,hR⟩:∃R,R=row c t:=⟨_,rfl⟩;rw[<-hR] at fO hlen jw;refine jB (Ai @hk.h6 (Ai @g8 (Ai (Ld t (by omega)) @a0))) ?_;refine iw T.mixed [32] (by kernel_rfl) ?_;intro K hK;refine jN (Ai @hk.h5 (Ai @hq.h7 (Ai @g8 (Ai @a1 (Ai @a2 (Ai @a3 (Ai @q0 (Ai @q1 (Ai @q2 (Ai @q3 (Ai @b0 (Ai @b1 (Ai @b2 (Ai @b3 (Ai @p0 (Ai @p1 (Ai @p2 (Ai @p3 (Ai @mg (Ai @TK (Ai @jw (Ai @fO @hlen)))))))))))))))))))))) ?_;refine⟨by omega,hK _ _ ?_⟩;clear hK;simp only[dJ,dn,if_true,if_false];refine ll _ _ ?_;clear ll K6;refine jD (Ai @g8 (fy t (by omega))) ?_;refine⟨⟨t+1,by omega,(by repeat(first |exact hk|exact hq|refine Kp.dY ?_ (by decide)|refine Kq.dY ?_ (by decide))),(by repeat(first |exact hk|exact hq|refine Kp.dY ?_ (by decide)|refine Kq.dY ?_ (by decide))),rfl,AS.bG _ _ _,by rw[AS.cO _ hwh.symm];exact jh,AS.dW mi Ll _⟩,?_⟩;simp only[g8,dY,↓reduceIte];omega
    ·have fB:¬(t:Int)<16:=(by omega);obtain rfl:t=16:=(by omega);refine jB (Ai @g8 (decide_eq_false fB)) ?_;refine jF ?_;refine ep ?_;simp only[dJ,dn,if_true];clear mE K5;refine jm _ _ ?_;clear jm K4;have hk:Kp oh m pl (.own tk e) i (dY (dY E3 31 (AV.v (.int .i64 ((16:Nat):Int)))) 32 (AV.v (.bool false))):=(by repeat(first |exact hk|exact hq|refine Kp.dY ?_ (by decide)|refine Kq.dY ?_ (by decide)));have hq:Kq ow (dY (dY E3 31 (AV.v (.int .i64 ((16:Nat):Int)))) 32 (AV.v (.bool false))):=(by repeat(first |exact hk|exact hq|refine Kp.dY ?_ (by decide)|refine Kq.dY ?_ (by decide)));generalize (dY (dY E3 31 (AV.v (.int .i64 ((16:Nat):Int)))) 32 (AV.v (.bool false)))=E4 at *
     clear g8;refine wK fun K4 jm=>?_;refine jA ?_;refine dH ?_;refine dU (fun E s3=>∃t:Nat,16<=t∧t<=64∧Kp oh m pl (.own tk e) i E∧Kq ow E∧E 10=.v (.int .i64 t)∧s3.dD ow=some (row c t)∧s3.dD oh=some (jZ st)∧s.le s3)
      (fun E _=>match E 10 with |.v (.int _ x)=>64-x.toNat|_=>0) ?_ ?_
     ·exact⟨16,by omega,by omega,(by repeat(first |exact hk|exact hq|refine Kp.dY ?_ (by decide)|refine Kq.dY ?_ (by decide))),(by repeat(first |exact hk|exact hq|refine Kp.dY ?_ (by decide)|refine Kq.dY ?_ (by decide))),rfl,jw,jh,mi⟩
     ·rintro E5 s4 ⟨t,ht,VU,hk,hq,g10,jw,jh,ie⟩ -
      refine wK fun K5 mE=>?_;by_cases ta:t<64
      ·have fB:(t:Int)<64:=(by omega);refine jB (Ai @g10 (decide_eq_true fB)) ?_;refine jE ?_;refine dX ?_;refine mE _ _ ?_;clear mE K5;refine wK fun K6 ll=>?_;refine dH ?_;have mg:(0:Int)<=(t:Int):=(by omega);have TK:(t:Int)<((64:Nat):Int):=(by omega);have n2:(0:Int)<=((t-2:Nat):Int):=(by omega);have n7:(0:Int)<=((t-7:Nat):Int):=(by omega);have n15:(0:Int)<=((t-15:Nat):Int):=(by omega);have n16:(0:Int)<=((t-16:Nat):Int):=(by omega);have m2:((t-2:Nat):Int)<((64:Nat):Int):=(by omega);have m7:((t-7:Nat):Int)<((64:Nat):Int):=(by omega);have Yi:((t-15:Nat):Int)<((64:Nat):Int):=(by omega);have Ww:((t-16:Nat):Int)<((64:Nat):Int):=(by omega);have w2:gR .i64 (t:Int) 2=((t-2:Nat):Int):=ju t 2 (by omega) (by omega);have w7:gR .i64 (t:Int) 7=((t-7:Nat):Int):=ju t 7 (by omega) (by omega);have w15:gR .i64 (t:Int) 15=((t-15:Nat):Int):=ju t 15 (by omega) (by omega);have w16:gR .i64 (t:Int) 16=((t-16:Nat):Int):=ju t 16 (by omega) (by omega);have d2:=pF c t (t-2) (by omega);have d7:=pF c t (t-7) (by omega);have d15:=pF c t (t-15) (by omega);have d16:=pF c t (t-16) (by omega);have hw:Sha.word c (Sha.rE c t) t=Sha.j9 (Sha.j9 (Sha.j9 (Sha.IA ((Sha.rE c t).getD (t-2) 0) 17 19 10) ((Sha.rE c t).getD (t-7) 0)) (Sha.IA ((Sha.rE c t).getD (t-15) 0) 7 18 3)) ((Sha.rE c t).getD (t-16) 0):=(by rw[Sha.word,if_neg (by omega)]);have fO:=CF c t ta;rw[hw] at fO;have hlen:=gU c t VU;have l2:=Sha.sf c t (t-2);have Wx:=Sha.sf c t (t-15);generalize (Sha.rE c t).getD (t-2) 0=y at *
       generalize (Sha.rE c t).getD (t-7) 0=x7 at *
       generalize (Sha.rE c t).getD (t-15) 0=x at *
       generalize (Sha.rE c t).getD (t-16) 0=x16 at *
       obtain⟨R,hR⟩:∃R,R=row c t:=⟨_,rfl⟩;rw[<-hR] at d2 d7 d15 d16 fO hlen jw;have y10:kE .u32 (y:Int) 10=((y/2^10:Nat):Int):=AG y 10 (by decide);have x3:kE .u32 (x:Int) 3=((x/2^3:Nat):Int):=AG x 3 (by decide);have v1:=uN _ _ (Sha.gB 17 l2) (Sha.gB 19 l2);have v2:=uN _ _ (Nat.xor_lt_two_pow (n:=32) (Sha.gB 17 l2) (Sha.gB 19 l2)) (Nat.lt_of_le_of_lt (Nat.div_le_self y (2^10)) l2);have v3:=uN _ _ (Sha.gB 7 Wx) (Sha.gB 18 Wx);have v4:=uN _ _ (Nat.xor_lt_two_pow (n:=32) (Sha.gB 7 Wx) (Sha.gB 18 Wx)) (Nat.lt_of_le_of_lt (Nat.div_le_self x (2^3)) Wx);have u1:(Sha.rL y 17 ^^^ Sha.rL y 19) ^^^ (y/2^10)=Sha.IA y 17 19 10:=rfl;have u2:(Sha.rL x 7 ^^^ Sha.rL x 18) ^^^ (x/2^3)=Sha.IA x 7 18 3:=rfl;rw[u1] at v2;rw[u2] at v4;simp only[Nat.reducePow] at y10 x3 v2 v4;refine iT T.mixed [(ow,R)] [] [4,9] [] (by kernel_rfl) (by simp only[dZ,ec,and_true];simp[AS.set,dY,jw]) ?_;intro K hK;simp only[↓eN,↓eD,gY,gS,eg,ej,dZ,ec,List.any_cons,List.any_nil,List.contains_cons,List.contains_nil,Nat.reduceBEq,Bool.or_false,Bool.or_true,Bool.or_self,Bool.false_or,↓DN,Qa,Qb,Qc,Qd,Qe,Qf,Qg,Qh,reduceCtorEq,↓reduceIte,Na,Nb,Nc,Nk,Nf,Ng,Nh,Za,Zb,Zc,TT,hq.h7,g10,w2,w15,n2,n15,m2,Yi,d2,d15,jw];refine hK _ _ ?_;clear hK K;refine gl T.mixed [(ow,R)] [3,5,17,19] [14,29] [32] (by kernel_rfl) (by simp only[dZ,ec,and_true];simp[AS.set,dY,jw]) ?_;intro K hK;simp only[↓eN,↓eD,gY,gS,eg,ej,dZ,ec,List.any_cons,List.any_nil,List.contains_cons,List.contains_nil,Nat.reduceBEq,Bool.or_false,Bool.or_true,Bool.or_self,Bool.false_or,↓DN,Qa,Qb,Qc,Qd,Qe,Qf,Qg,Qh,reduceCtorEq,↓reduceIte,Na,Nb,Nc,Nk,Nf,Ng,Nh,Za,Zb,Zc,TT,hq.h7,g10,w7,w16,n7,n16,m7,Ww,d7,d16,jw];refine b6 (iV y 17 l2 (by omega) (by omega) _) ?_;rintro r sa ⟨rfl,rfl⟩;simp only[↓fM,↓fi,eZ,↓eN,↓eD,gY,gS,eg,ej,dZ,ec,List.any_cons,List.any_nil,DX,Nat.reduceBEq,↓DN,Qa,Qb,Qc,Qd,Qe,Qf,Qg,Qh,reduceCtorEq,↓reduceIte,Na,Nb,Nc,Nk,Nf,Ng,Nh,Za,Zb,Zc,TT,hq.h7,g10,w7,w16,n7,n16,m7,Ww,d7,d16,jw];refine b6 (iV y 19 l2 (by omega) (by omega) _) ?_;rintro r sb ⟨rfl,rfl⟩;simp only[↓fM,↓fi,eZ,↓eN,↓eD,gY,gS,eg,ej,dZ,ec,List.any_cons,List.any_nil,DX,Nat.reduceBEq,↓DN,Qa,Qb,Qc,Qd,Qe,Qf,Qg,Qh,reduceCtorEq,↓reduceIte,Na,Nb,Nc,Nk,Nf,Ng,Nh,Za,Zb,Zc,TT,hq.h7,g10,w7,w16,n7,n16,m7,Ww,d7,d16,jw,y10,v1,v2,yX];refine b6 (iV x 7 Wx (by omega) (by omega) _) ?_;rintro r sc ⟨rfl,rfl⟩;simp only[↓fM,↓fi,eZ,↓eN,↓eD,gY,gS,eg,ej,dZ,ec,List.any_cons,List.any_nil,DX,Nat.reduceBEq,↓DN,Qa,Qb,Qc,Qd,Qe,Qf,Qg,Qh,reduceCtorEq,↓reduceIte,Na,Nb,Nc,Nk,Nf,Ng,Nh,Za,Zb,Zc,TT,hq.h7,g10,w7,w16,n7,n16,m7,Ww,d7,d16,jw,y10,v1,v2,yX];refine b6 (iV x 18 Wx (by omega) (by omega) _) ?_;rintro r sd ⟨rfl,rfl⟩;simp only[↓fM,↓fi,eZ,↓eN,↓eD,gY,gS,eg,ej,dZ,ec,List.any_cons,List.any_nil,DX,Nat.reduceBEq,↓DN,Qa,Qb,Qc,Qd,Qe,Qf,Qg,Qh,reduceCtorEq,↓reduceIte,Na,Nb,Nc,Nk,Nf,Ng,Nh,Za,Zb,Zc,TT,hq.h7,g10,w7,w16,n7,n16,m7,Ww,d7,d16,jw,x3,v3,v4,yX,mg,TK,fO,hlen];refine⟨by omega,hK _ _ ?_⟩;clear hK;simp only[dJ,dn,if_true,if_false];refine ll _ _ ?_;clear ll K6;refine jD (Ai @g10 (fy t (by omega))) ?_;refine⟨⟨t+1,by omega,by omega,(by repeat(first |exact hk|exact hq|refine Kp.dY ?_ (by decide)|refine Kq.dY ?_ (by decide))),(by repeat(first |exact hk|exact hq|refine Kp.dY ?_ (by decide)|refine Kq.dY ?_ (by decide))),rfl,AS.bG _ _ _,by rw[AS.cO _ hwh.symm];exact jh,AS.dW ie Ll _⟩,?_⟩;simp only[g10,dY,↓reduceIte];omega
      ·have fB:¬(t:Int)<64:=(by omega);obtain rfl:t=64:=(by omega);refine jB (Ai @g10 (decide_eq_false fB)) ?_;refine jF ?_;refine ep ?_;simp only[dJ,dn,if_true];clear mE K5;refine jm _ _ ?_;clear jm K4;have hk:Kp oh m pl (.own tk e) i (dY (dY E5 71 (AV.v (.int .i64 ((64:Nat):Int)))) 72 (AV.v (.bool false))):=(by repeat(first |exact hk|exact hq|refine Kp.dY ?_ (by decide)|refine Kq.dY ?_ (by decide)));have hq:Kq ow (dY (dY E5 71 (AV.v (.int .i64 ((64:Nat):Int)))) 72 (AV.v (.bool false))):=(by repeat(first |exact hk|exact hq|refine Kp.dY ?_ (by decide)|refine Kq.dY ?_ (by decide)));generalize (dY (dY E5 71 (AV.v (.int .i64 ((64:Nat):Int)))) 72 (AV.v (.bool false)))=E6 at *
       clear g10;rw[Lc] at jw;obtain⟨W,hW⟩:∃W,W=Sha.rE c 64:=⟨_,rfl⟩;have Kd:W.length=64:=(by rw[hW,Sha.gH]);have Wz:Sha.mix st c=st.add (Sha.rounds W st 64):=(by rw[hW];rfl);rw[<-hW] at jw;have xkV:(jZ st).length=8:=rfl;have xkW:List.take 8 (jZ st)=jZ st:=rfl;have xiP:=OL st;refine jS (Ai @hk.h3 @jh) fun K hK=>?_;intro tt htt;refine hK _ _ ?_;clear hK;have EB:s.own tt=none:=by
        cases hs:s.own tt with
        |none=>rfl
        |some g=>rw[ie.own _ _ hs] at htt;cases htt
       have ly:s.le (s4.eT tt 0):=AS.eE ie EB _;have jw5:(s4.eT tt 0).dD ow=some (W.map wV):=jw;have jh5:(s4.eT tt 0).dD oh=some (jZ st):=jh;generalize s4.eT tt 0=s5 at *
       refine wK fun K4 jm=>?_;refine jA ?_;refine dH ?_;refine dU (fun E s3=>∃t:Nat,t<=64∧Kp oh m pl (.own tk e) i E∧Kq ow E∧(∃sp',Kr (jZ (Sha.rounds W st t)) sp' E)∧E 14=.v (.int .i64 t)∧s3.dD ow=some (W.map wV)∧s3.dD oh=some (jZ st)∧s.le s3)
        (fun E _=>match E 14 with |.v (.int _ x)=>64-x.toNat|_=>0) ?_ ?_
       ·exact⟨0,by omega,(by repeat(first |exact hk|exact hq|refine Kp.dY ?_ (by decide)|refine Kq.dY ?_ (by decide))),(by repeat(first |exact hk|exact hq|refine Kp.dY ?_ (by decide)|refine Kq.dY ?_ (by decide))),⟨.own tt 0,by refine Kr.dY ?_ (by decide);exact⟨rfl⟩⟩,rfl,jw5,jh5,ly⟩
       ·rintro E7 s6 ⟨t,ht,hk,hq,⟨sp',hv⟩,g14,jw,jh,mY⟩ -
        refine wK fun K5 mE=>?_;have qd:=Sha.A4 (w:=W) np t;have xhc:Sha.rounds W st (t+1)=(Sha.rounds W st t).step (Sha.K.getD t 0) (W.getD t 0):=rfl;generalize hu:Sha.rounds W st t=u at *
        by_cases ta:t<64
        ·have fB:(t:Int)<64:=(by omega);refine jB (Ai @g14 (decide_eq_true fB)) ?_;refine jE ?_;refine dX ?_;refine mE _ _ ?_;clear mE K5;refine wK fun K6 ll=>?_;refine dH ?_;have mg:(0:Int)<=(t:Int):=(by omega);have TK:(t:Int)<((64:Nat):Int):=(by omega);have hwd:=xc3 W t (by omega);have LU:=xc3 Sha.K t (by rw[show Sha.K.length=64 from rfl];omega);generalize W.getD t 0=wi at *
         generalize Sha.K.getD t 0=ki at *
         obtain⟨KL,hKL⟩:∃KL,KL=Sha.K.map wV:=⟨_,rfl⟩;obtain⟨WL,hWL⟩:∃WL,WL=W.map wV:=⟨_,rfl⟩;have g4:=hk.h4;rw[<-hKL] at LU g4;rw[<-hWL] at hwd jw;have xhd:List.take 1 (List.drop t KL)=[wV ki]:=(by rw[LU];rfl);have g13:=hv.Tj;have NY:∀{a b:Nat},a<4294967296->b<4294967296->a &&& b<4294967296:=fun{a b}ha hb=>Nat.lt_of_le_of_lt Nat.and_le_left ha;have lx2:∀{a b:Nat},a<4294967296->b<4294967296->a ^^^ b<4294967296:=fun{a b}ha hb=>Nat.xor_lt_two_pow (n:=32) ha hb;have hn:4294967295-u.e<4294967296:=(by omega);have z1:=uN _ _ (Sha.gB 6 qd.e) (Sha.gB 11 qd.e);have z2:=uN _ _ (lx2 (Sha.gB 6 qd.e) (Sha.gB 11 qd.e)) (Sha.gB 25 qd.e);have z3:(Sha.rL u.e 6 ^^^ Sha.rL u.e 11) ^^^ Sha.rL u.e 25=Sha.Tq u.e 6 11 25:=rfl;rw[z3] at z2;have z4:=uN _ _ (Sha.gB 2 qd.a) (Sha.gB 13 qd.a);have z5:=uN _ _ (lx2 (Sha.gB 2 qd.a) (Sha.gB 13 qd.a)) (Sha.gB 22 qd.a);have z6:(Sha.rL u.a 2 ^^^ Sha.rL u.a 13) ^^^ Sha.rL u.a 22=Sha.Tq u.a 2 13 22:=rfl;rw[z6] at z5;refine iT T.mixed [(ow,WL)] [6,10,15] [43] [] (by kernel_rfl) (by simp only[dZ,ec,and_true];simp[AS.set,dY,jw]) ?_;intro K hK;simp only[↓eN,↓eD,gY,gS,eg,ej,dZ,ec,List.any_cons,List.any_nil,List.contains_cons,List.contains_nil,Nat.reduceBEq,Bool.or_false,Bool.or_true,Bool.or_self,Bool.false_or,↓DN,Qa,Qb,Qc,Qd,Qe,Qf,Qg,Qh,reduceCtorEq,↓reduceIte,Na,Nb,Nc,Nk,Nf,Ng,Nh,Za,Zb,Zc,TT,g13,c8,hq.h7,g14,g4,jw];refine b6 (iV u.e 6 qd.e (by omega) (by omega) _) ?_;rintro r sa ⟨rfl,rfl⟩;simp only[↓fM,↓fi,eZ,↓eN,↓eD,gY,gS,eg,ej,dZ,ec,List.any_cons,List.any_nil,DX,Nat.reduceBEq,↓DN,Qa,Qb,Qc,Qd,Qe,Qf,Qg,Qh,reduceCtorEq,↓reduceIte,Na,Nb,Nc,Nk,Nf,Ng,Nh,Za,Zb,Zc,TT,g13,c8,hq.h7,g14,g4,jw];refine b6 (iV u.e 11 qd.e (by omega) (by omega) _) ?_;rintro r sb ⟨rfl,rfl⟩;simp only[↓fM,↓fi,eZ,↓eN,↓eD,gY,gS,eg,ej,dZ,ec,List.any_cons,List.any_nil,DX,Nat.reduceBEq,↓DN,Qa,Qb,Qc,Qd,Qe,Qf,Qg,Qh,reduceCtorEq,↓reduceIte,Na,Nb,Nc,Nk,Nf,Ng,Nh,Za,Zb,Zc,TT,g13,c8,hq.h7,g14,g4,jw,z1];refine b6 (iV u.e 25 qd.e (by omega) (by omega) _) ?_;rintro r sc ⟨rfl,rfl⟩;simp only[↓fM,↓fi,eZ,↓eN,↓eD,gY,gS,eg,ej,dZ,ec,List.any_cons,List.any_nil,DX,Nat.reduceBEq,↓DN,Qa,Qb,Qc,Qd,Qe,Qf,Qg,Qh,reduceCtorEq,↓reduceIte,Na,Nb,Nc,Nk,Nf,Ng,Nh,Za,Zb,Zc,TT,g13,c8,hq.h7,g14,g4,jw,z1,z2,xhd,hwd,mg,TK,yX,FQ u.e u.f qd.e qd.f,xcV u.e qd.e,FQ (4294967295-u.e) u.g hn qd.g,uN (u.e &&& u.f) ((4294967295-u.e) &&& u.g) (NY qd.e qd.f) (NY hn qd.g)];refine hK _ _ ?_;clear hK K;refine eB T.mixed [3,7,12] (by kernel_rfl) ?_;intro K hK;refine jN (Ai @g13 @c8) ?_;refine b6 (iV u.a 2 qd.a (by omega) (by omega) _) ?_;rintro r sa ⟨rfl,rfl⟩;refine jN (Ai @g13 @c8) ?_;refine b6 (iV u.a 13 qd.a (by omega) (by omega) _) ?_;rintro r sb ⟨rfl,rfl⟩;refine jN (Ai @g13 (Ai @c8 @z4)) ?_;refine b6 (iV u.a 22 qd.a (by omega) (by omega) _) ?_;rintro r sc ⟨rfl,rfl⟩;refine jV (Ai @g13 (Ai @c8 (Ai @z4 (Ai @z5 (Ai @yX (Ai (FQ u.a u.b qd.a qd.b) (Ai (FQ u.a u.c qd.a qd.c) (Ai (FQ u.b u.c qd.b qd.c) (Ai (uN (u.a &&& u.b) (u.a &&& u.c) (NY qd.a qd.b) (NY qd.a qd.c)) (uN ((u.a &&& u.b) ^^^ (u.a &&& u.c)) (u.b &&& u.c) (lx2 (NY qd.a qd.b) (NY qd.a qd.c)) (NY qd.b qd.c))))))))))) hK ?_;clear hK K;refine iw T.mixed [] (by kernel_rfl) ?_;intro K hK;refine jV (Ai @g13 (Ai @c8 (Ai @yX @xg8))) hK ?_;clear hK K;simp only[dJ,dn,if_true,if_false];refine ll _ _ ?_;clear ll K6;refine jD (Ai @g14 (fy t (by omega))) ?_;refine⟨⟨t+1,by omega,(by repeat(first |exact hk|exact hq|refine Kp.dY ?_ (by decide)|refine Kq.dY ?_ (by decide))),(by repeat(first |exact hk|exact hq|refine Kp.dY ?_ (by decide)|refine Kq.dY ?_ (by decide))),⟨.new,?_⟩,rfl,by rw[jw,hWL],jh,mY⟩,?_⟩
         ·repeat(first |refine Kr.dY ?_ (by decide))
          refine⟨?_⟩;simp only[dY,↓reduceIte];rw[xhc];rfl
         ·simp only[g14,dY,↓reduceIte];omega
        ·have fB:¬(t:Int)<64:=(by omega);obtain rfl:t=64:=(by omega);refine jB (Ai @g14 (decide_eq_false fB)) ?_;refine jF ?_;refine ep ?_;simp only[dJ,dn,if_true];clear mE K5;refine jm _ _ ?_;clear jm K4;have hk:Kp oh m pl (.own tk e) i (dY (dY E7 120 (AV.v (.int .i64 ((64:Nat):Int)))) 121 (AV.v (.bool false))):=(by repeat(first |exact hk|exact hq|refine Kp.dY ?_ (by decide)|refine Kq.dY ?_ (by decide)));have hv:Kr (jZ u) sp' (dY (dY E7 120 (AV.v (.int .i64 ((64:Nat):Int)))) 121 (AV.v (.bool false))):=(by repeat(first |exact hk|exact hq|exact hv|refine Kp.dY ?_ (by decide)|refine Kq.dY ?_ (by decide)|refine Kr.dY ?_ (by decide)));generalize (dY (dY E7 120 (AV.v (.int .i64 ((64:Nat):Int)))) 121 (AV.v (.bool false)))=E8 at *
         clear g14;rw[hu] at Wz;rw[<-GN st u] at jh;refine jA ?_;refine dH ?_;refine dU (fun E s3=>∃t:Nat,t<=8∧Kp oh m pl (.own tk e) i E∧Kr (jZ u) sp' E∧E 17=.v (.int .i64 t)∧s3.dD oh=some (Ex st u t)∧s.le s3)
          (fun E _=>match E 17 with |.v (.int _ x)=>8-x.toNat|_=>0) ?_ ?_
         ·exact⟨0,by omega,(by repeat(first |exact hk|exact hq|refine Kp.dY ?_ (by decide)|refine Kq.dY ?_ (by decide))),(by repeat(first |exact hk|exact hq|exact hv|refine Kp.dY ?_ (by decide)|refine Kq.dY ?_ (by decide)|refine Kr.dY ?_ (by decide))),rfl,jh,mY⟩
         ·rintro E9 s7 ⟨t,ht,hk,hv,g17,jh,sw⟩ -
          refine wK fun K5 mE=>?_;by_cases ta:t<8
          ·have fB:(t:Int)<8:=(by omega);refine jB (Ai @g17 (decide_eq_true fB)) ?_;refine jE ?_;refine dX ?_;refine mE _ _ ?_;clear mE K5;refine wK fun K6 ll=>?_;refine dH ?_;have mg:(0:Int)<=(t:Int):=(by omega);have d2:=GP st u t ta;have d5:=Ey u t ta;have fO:=Lf st u t ta;have hlen:=Le st u t ht;generalize st.list.getD t 0=x at *
           generalize u.list.getD t 0=y at *
           have g13:=hv.Tj;obtain⟨X,hX⟩:∃X,X=Ex st u t:=⟨_,rfl⟩;rw[<-hX] at d2 fO hlen jh;obtain⟨Y,hY⟩:∃Y,Y=jZ u:=⟨_,rfl⟩;rw[<-hY] at d5 g13;have d51:List.take 1 (List.drop t Y)=[wV y]:=(by rw[d5];rfl);refine gl T.mixed [(oh,X)] [] [5] [12] (by kernel_rfl) (by simp only[dZ,ec,and_true];simp[AS.set,dY,jh]) ?_;intro K hK;simp only[↓eN,↓eD,gY,gS,eg,ej,dZ,ec,List.any_cons,List.any_nil,List.contains_cons,List.contains_nil,Nat.reduceBEq,Bool.or_false,Bool.or_true,Bool.or_self,Bool.false_or,↓DN,Qa,Qb,Qc,Qd,Qe,Qf,Qg,Qh,reduceCtorEq,↓reduceIte,Na,Nb,Nc,Nk,Nf,Ng,Nh,Za,Zb,Zc,TT,hk.h3,g17,g13,c8,mg,fB,d2,d51,jh,yX,fO,hlen];refine⟨by omega,hK _ _ ?_⟩;clear hK;simp only[dJ,dn,if_true,if_false];refine ll _ _ ?_;clear ll K6;refine jD (Ai @g17 (fy t (by omega))) ?_;refine⟨⟨t+1,by omega,(by repeat(first |exact hk|exact hq|refine Kp.dY ?_ (by decide)|refine Kq.dY ?_ (by decide))),(by repeat(first |exact hk|exact hq|exact hv|refine Kp.dY ?_ (by decide)|refine Kq.dY ?_ (by decide)|refine Kr.dY ?_ (by decide))),rfl,AS.bG _ _ _,AS.dW sw hoh _⟩,?_⟩;simp only[g17,dY,↓reduceIte];omega
          ·have fB:¬(t:Int)<8:=(by omega);obtain rfl:t=8:=(by omega);refine jB (Ai @g17 (decide_eq_false fB)) ?_;refine jF ?_;refine ep ?_;simp only[dJ,dn,if_true,if_false];refine eX _ _ ?_;clear eX mE K3 K5;have h6:=hk.h6;have PY:iY .i64 ((64*i:Nat):Int) 64=((64*(i+1):Nat):Int):=gw (64*i) 64 (by omega);refine jD (Ai @h6 @PY) ?_;rw[GO,<-Wz,<-XI] at jh;refine⟨⟨i+1,et,⟨by simp only[dY,hk.h3,Nc,↓reduceIte],by simp only[dY,hk.h4,Nc,↓reduceIte],by simp only[dY,hk.h5,Nc,↓reduceIte],rfl⟩,jh,sw⟩,?_⟩;simp only[dY,↓reduceIte,Int.toNat_natCast,Yl];omega
  ·have fB:¬((64*i:Nat):Int)<((64*m:Nat):Int):=(by omega);obtain rfl:i=m:=(by omega);refine jB (Ai @e6 (Ai @hk.h5 (decide_eq_false fB))) ?_;refine jF ?_;refine ep ?_;simp only[dJ,dn,if_true];clear eH K2;refine hK _ _ ?_;clear hK K;have h3:=hk.h3;generalize Sha.hash pl i=u at *
   refine jA ?_;refine wK fun K hK=>?_;refine jA ?_;refine dH ?_;refine dU (fun E s3=>∃t:Nat,t<=8∧E 3=.jd oh 0 1 8 8∧E 19=.v (.int .i64 t)∧s3.dD oh=some (jZ u)∧iN s2 (QC u t) (E 18) s3)
    (fun E _=>match E 19 with |.v (.int _ x)=>8-x.toNat|_=>0) ?_ ?_
   ·exact⟨0,by omega,h3,rfl,ho,AS.le.refl s2,.inl ⟨rfl,rfl⟩⟩
   ·rintro E3 s3 ⟨t,ht,g3,g19,jh,EA⟩ -
    refine wK fun K5 mE=>?_;by_cases ta:t<8
    ·have fB:(t:Int)<8:=(by omega);have mg:(0:Int)<=(t:Int):=(by omega);refine jB (Ai @g19 (decide_eq_true fB)) ?_;refine jE ?_;refine dX ?_;refine mE _ _ ?_;clear mE K5;refine wK fun K6 ll=>?_;refine dH ?_;have d5:=Ey u t ta;have uB:=GS u t ta;have VO:=Lk u t ht;generalize u.list.getD t 0=x at *
     have XO:kE .u32 (x:Int) 24=((x/2^24:Nat):Int):=AG x 24 (by decide);have P2:kE .u32 (x:Int) 16=((x/2^16:Nat):Int):=AG x 16 (by decide);have s8:kE .u32 (x:Int) 8=((x/2^8:Nat):Int):=AG x 8 (by decide);generalize zG:E3 18=r6 at EA;obtain⟨X,hX⟩:∃X,X=jZ u:=⟨_,rfl⟩;rw[<-hX] at d5 jh;refine gl T.mixed [(oh,X)] [25] [4,10,16,22] [] (by kernel_rfl) (by simp only[dZ,ec,and_true];simp[AS.set,dY,jh]) ?_;intro K hK;simp only[↓eN,↓eD,gY,gS,eg,ej,dZ,ec,List.any_cons,List.any_nil,List.contains_cons,List.contains_nil,Nat.reduceBEq,Bool.or_false,Bool.or_true,Bool.or_self,Bool.false_or,↓DN,Qa,Qb,Qc,Qd,Qe,Qf,Qg,Qh,reduceCtorEq,↓reduceIte,Na,Nb,Nc,Nk,Nf,Ng,Nh,Za,Zb,Zc,TT,g3,g19,c8,mg,fB,d5,jh,XO,P2,s8,WD,zG];refine hJ (ds:=Sha.be x) EA rfl (by simp only[Sha.be,List.map_cons,List.map_nil,CG]) T.c5 T.b5 (by rw[VO];simp only[Sha.be,List.length_cons,List.length_nil];omega) ?_;intro r2 s6 h6;rw[uB] at h6;refine⟨by rw[hX];exact h6.1.dD _ _ ho,hK _ _ ?_⟩;clear hK;simp only[dJ,dn,if_true,if_false];refine ll _ _ ?_;clear ll K6;refine jD (Ai @g19 (fy t (by omega))) ?_;refine⟨⟨t+1,by omega,g3,rfl,h6.1.dD _ _ ho,by simpa only[dY,Nc,↓reduceIte] using h6⟩,?_⟩;simp only[g19,dY,↓reduceIte];omega
    ·have fB:¬(t:Int)<8:=(by omega);obtain rfl:t=8:=(by omega);refine jB (Ai @g19 (decide_eq_false fB)) ?_;refine jF ?_;refine ep ?_;simp only[dJ,dn,if_true];clear mE K5;refine hK _ _ ?_;clear hK K;rw[GU,Vt] at EA;obtain⟨tz,ez,hz0⟩:=gD EA (by rw[<-List.length_pos_iff,Sha.im];decide);refine jB @hz0 ?_;refine jI ?_;exact⟨_,s,AV.dV.refl _,AS.le.trans hle EA.1,rfl,rfl⟩
theorem xhe:b7 prog 235=true:=kM
theorem xhf:b7 prog 237=true:=kM
theorem xhg:b7 prog 163=true:=kM
theorem kG(k:Nat)(n:Int)(st:List UInt8×Bool):(eP k n st).1.length<=st.1.length+k:=by
 unfold eP jX;split
 ·split
  ·omega
  ·simp
 ·simp only;omega
theorem FU(number:Int)(hn: -9223372036854775808<=number∧number<=9223372036854775807)(N:cH)(hl:N.nS.length<=2^61)(s0 s:AS)(p:Nat)(st:List UInt8×Bool)(np:st.1.length<=100)(h:mK s0 s p st):
  dS prog Γ 235 [.ptr p 0,.ij [.v (.int .i64 number)],.ij N.cells] s (fun r s'=>r=.ka []∧mK s0 s' p (iO N (eP 4 number st))):=by
 refine xH func235 ntmps235 results235 ?_;have hw:=uA (Γ:=Γ) N hl;unfold cH.cells at *
 refine jQ fun K hK=>?_;refine b6 (yZ s0 s p st number hn oM h) ?_;rintro r s1 ⟨rfl,h1⟩;refine jR hK ?_;have hl4:=kG 4 number st;refine jU @ea.eq_1 fun K hK=>?_;refine b6 (hw s0 s1 p _ oM h1) ?_;rintro r s2 ⟨rfl,h2⟩;refine jR hK ?_;simp only[fX,fe,fq,iu,ah,↓eL];try simp only[UP,DF,Nc,↓reduceIte,DT]
 exact jW ⟨rfl,h2⟩
theorem Cl(N:cH)(hl:N.nS.length<=2^61)(s0 s:AS)(p:Nat)(st:List UInt8×Bool)(np:st.1.length<=100)(h:mK s0 s p st):
  dS prog Γ 237 [.ptr p 0,.ij N.cells] s (fun r s'=>r=.ka []∧mK s0 s' p (iO N st)):=by
 refine xH func237 ntmps237 results237 ?_;have hw:=uA (Γ:=Γ) N hl;unfold cH.cells at *
 refine jU @ea.eq_1 fun K hK=>?_;refine b6 (hw s0 s p _ oM h) ?_;rintro r s2 ⟨rfl,h2⟩;refine jR hK ?_;simp only[fX,fe,fq,iu,ah,↓eL];try simp only[UP,DF,Nc,↓reduceIte,DT]
 exact jW ⟨rfl,h2⟩
theorem Cm(N:cH)(hk:N.key<2^64)(hp:N.parent.length<=100)(s0 s:AS)(p:Nat)(st:List UInt8×Bool)(np:st.1.length<=100)(h:mK s0 s p st):
  dS prog Γ 163 [.ptr p 0,.ij N.cells] s (fun r s'=>r=.ka []∧mK s0 s' p (iM 1 N.parent (jX 8 N.key st))):=by
 refine xH func163 ntmps163 results163 ?_;have Gt:(jX 8 N.key st).1.length<=st.1.length+8:=(by unfold jX;split;omega;simp);obtain⟨k,m,y,pa,u⟩:=N;simp only at hk hp Gt;unfold cH.cells at *
 refine jQ fun K hK=>?_;refine b6 (ql s0 s p st y hk oM h) ?_;rintro r s1 ⟨rfl,h1⟩;refine jR hK ?_;refine jU @ea.eq_1 fun K hK=>?_;refine b6 (lY s0 s1 p _ (dm pa .any) pa (.inr ⟨_,rfl⟩) oM h1) ?_;rintro r s2 ⟨rfl,h2⟩;refine jR hK ?_;simp only[fX,fe,fq,iu,ah,↓eL];try simp only[UP,DF,Nc,↓reduceIte,DT]
 exact jW ⟨rfl,h2⟩
theorem rA(mark:Nat)(hm:mark<256)(k:FuncId)(gh:List AV)(hk:b7 prog k=true)(F:List UInt8×Bool)
  (hF:∀s0 s p,mK s0 s p ([ax mark],false)->dS prog Γ k (.ptr p 0::gh) s (fun r s'=>r=.ka []∧mK s0 s' p F)) (hl:F.1.length<=2^45) (s:AS):
  aI prog Γ 162 [.v (.int .i64 (mark:Int)),.wm k gh] s (.ka [dm (if F.2=true then[] else F.1) .any,.v (.bool !F.2)]):=by
 refine xH func162 ntmps162 results162 ?_;have h0:eP 1 (mark:Int) ([],false)=([ax mark],false):=by
  unfold eP;rw[if_pos ⟨oM,oM⟩];simp[jX,be]
 refine jA ?_;refine jQ fun K hK=>?_;refine b6 (v8 s) ?_;rintro r s1 ⟨p,rfl,q1⟩;refine jR hK ?_;refine jQ fun K hK=>?_;refine b6 (lX s s1 p ([],false) (mark:Int) oM sM q1) ?_;rintro r s2 ⟨rfl,q2⟩;rw[h0] at q2;refine jR hK ?_;refine wS fun K hK=>?_;simp only[↓DN,Qa,Qb,Qc,Qd,Qe,Qf,Qg,Qh,seval,TT,hk];refine b6 (hF s s2 p q2) ?_;rintro r s3 ⟨rfl,q3⟩;refine jR hK ?_;refine jK (nY s s3 p _ hl q3) ?_;rintro s4 rfl;refine jI ?_;exact⟨_,s,AV.dV.refl _,q3.le,rfl,rfl⟩
end Go.Proofs.YtbiefppedlodiaaGreatDoor
