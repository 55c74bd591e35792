/- Contracts of functions, each walked once; each theorem states its conditions. -/
import Derived.Test.YtbiefppedlodiaaGreatDoorAMp6
import Derived.Test.YtbiefppedlodiaaGreatDoorW1
import Derived.Test.YtbiefppedlodiaaGreatDoorW3
import Derived.Test.YtbiefppedlodiaaGreatDoorW2
import Derived.Test.YtbiefppedlodiaaGreatDoorAMp5
open Bool renaming eq_iff_iff -> bX, false_or -> bq, or_eq_true -> cp
open Go.IntKind renaming bits -> aJ
open Int renaming eq_ofNat_of_zero_le -> ba, toNat_natCast -> aC
open List renaming drop -> aK, getD -> bm, getD_eq_getElem?_getD -> aO, getElem?_take -> aF, getElem_mem -> bg, length_cons -> aZ, length_map -> aj, map_append -> aH, mem_append -> cu, mem_singleton -> cg, nil_append -> aP, replicate -> ae, replicate_succ -> av, take -> aD, take_of_length_le -> ad, take_succ_eq_append_getElem -> af
open Nat renaming div_le_self -> dc, lt_of_le_of_lt -> bM, min_eq_left -> cQ, not_lt_zero -> cN, pow_succ -> cj, xor_lt_two_pow -> cf, zero_le -> aA
open UInt8 renaming ofNat -> az
set_option linter.unusedSimpArgs false
set_option linter.unusedVariables false
open Nat renaming reduceLT -> Na, reduceLeDiff -> Nb, reduceEqDiff -> Nc, reduceAdd -> Nk, reduceMul -> Nf, reducePow -> Ng, reduceSub -> Nh, reduceBEq -> Nz
open Int renaming reduceLT -> Za, reduceLE -> Zb, reduceToNat -> Zc
open And renaming intro -> Ai
open Go.AM renaming ashift -> Qa, aconv -> Qb, aindexAddr -> Qc, aindex -> Qd, aslice -> Qe, abuiltin -> Qf, awp_reg_seq -> wS, awp_reg_end -> wE, awp_seq_k -> wK, awp_cond_k -> wC
open Go.AM.AV renaming cells -> Qg, one -> Qh
set_option maxRecDepth 100000
set_option maxHeartbeats 8000000
namespace Go.Proofs.YtbiefppedlodiaaGreatDoor
open Go Go.AM Go.Proofs Tryz
variable{Γ:Nat->List AV}
theorem Em{t:List cH}{name:List UInt8}{a:Nat}:decide (0<=tR t name (a+1))=false↔∀j,j<kS t->a<j->¬(j0 t (j:Int)∧(nd t (2*j)).name=name):=by
 have h:=AZ (fun(j:Nat)=>decide (j0 t (j:Int)∧(nd t (2*j)).name=name)) (kS t-(a+1)) (a+1);constructor
 ·intro h1 j h2 h3 h4;have :decide (0<=tR t name (a+1))=true:=h.2 ⟨j,oM,oM,dT h4⟩;rw[h1] at this;cases this
 ·intro h1;cases hd:decide (0<=tR t name (a+1)) with
  |false=>rfl
  |true=>
   obtain⟨j,h2,h3,h4⟩:=h.1 hd;exact absurd (of_decide_eq_true h4) (h1 j oM oM)
theorem pc(hG:Γ 3=lQ.map uU)(t:List cH)(ht:iD t)(s:AS):aI prog Γ 101 [eA t] s (.v (.bool (decide (eJ t)))):=by
 refine xH func101 ntmps101 results101 ?_;have nD:=ht.1;have tT:=fun s=>tS (Γ:=Γ) t nD s;have hmc:=fun i s=>qu (Γ:=Γ) t nD i s;have YK:=fun i(h:i<t.length)s=>Iz (Γ:=Γ) hG t ht i h s;have Hf:=fun name a(h:a<=2^60)s=>FN (Γ:=Γ) t nD name a h s;have Jf:=fun a k h s=>FM (Γ:=Γ) t nD a k h s;have gO:=fun i(h:i<t.length)=>gL (t:=t) h;have hlv:=Ia t;have Tl:ee t≠0->t.length=2*ee t-1:=fun h=>(fA.resolve_left h).2;have Wq:ee t=0->decide (eJ t)=false:=fun h=>dF fun k=>k.1 h;have Wr:∀i,i<t.length->¬mO t i->decide (eJ t)=false:=fun i h1 h2=>dF fun k=>h2 (k.2.1 i h1);have tB:ee t≠0->(∀i,i<t.length->mO t i)->decide (eJ t)=(((ee t:Int)==1)||decide ((0:Int)<(mr (j0 t) (ee t/2) (ee t-ee t/2):Int))):=by
  intro h1 h2;rw[bX,decide_eq_true_iff,cp,beq_iff_eq,decide_eq_true_iff];constructor
  ·rintro⟨_,_,h3⟩;exact h3.imp (fun q=>oM) (fun q=>oM)
  ·intro h3;exact⟨h1,h2,h3.imp (fun q=>oM) (fun q=>oM)⟩
 unfold eA at *
 generalize eb cH.cells t=X at *
 generalize decide (eJ t)=Wp at *
 refine jA ?_;refine jK (tT _) ?_;rintro s1 rfl;refine Jc fun K hK=>?_;refine dU (fun E s2=>∃i:Nat,i<=t.length∧(0<i->ee t≠0)∧(∀j,j<i->mO t j)∧E 9=.v (.int .i64 i)∧E 8=.v (.int .i64 t.length)∧E 3=.v (.int .i64 (ee t))∧E 0=.sl 5 t.length X .any∧s2=s1)
  (fun E _=>match E 9 with |.v (.int _ i)=>t.length-i.toNat|_=>0) ?_ ?_
 ·exact⟨0,aA _,fun h=>absurd h (Nat.lt_irrefl _),fun j h=>absurd h (cN _),rfl,rfl,rfl,rfl,rfl⟩
 ·rintro E1 s2 ⟨i,hi,hn0,fG,g9,g8,g3,g0,rfl⟩ -
  by_cases et:i<t.length
  ·refine jB (Ai @g9 (Ai @g8 (Ai @dB (dT et)))) ?_;refine Ja fun K2 eH=>?_;refine eH _ _<|nF fun K3 eX=>?_;refine jB @g9 ?_;by_cases hz:ee t=0
   ·refine jB (Ai @g3 (VG hz)) ?_;refine mS ?_;rw[Wq hz];exact jW ⟨rfl,rfl⟩
   ·have kX:mO t i↔vH t i∧(i%2=0->j0 t ((i/2:Nat):Int)->decide (0<=tR t (nd t i).name (i/2+1))=false):=by
     unfold mO;rw[Em]
    have hlen:=Tl hz;have ou:=gO i et;have hni:=fun s=>Hf (nd t i).name (i/2+1) oM s;generalize hNI:tR t (nd t i).name (i/2+1)=NI at *
    generalize nd t i=N at *
    obtain⟨nk,nm,ny,pH,nu⟩:=N;unfold cH.cells at ou;simp only at hni;have gC:(0:Int)<=(i:Int):=oM;have vR:mG (i:Int) 2=((i%2:Nat):Int):=mI i 2;have KC:nn .i64 (i:Int) 2=((i/2:Nat):Int):=iI i oM;have hq3:iY .i64 ((i/2:Nat):Int) 1=((i/2+1:Nat):Int):=eK _ oM;have fu:mO t i->∀(E:Env),E 9=.v (.int .i64 i)->E 8=.v (.int .i64 t.length)->E 3=.v (.int .i64 (ee t))->E 0=.sl 5 t.length X .any->K3 E s2:=by
     intro hg E f9 f8 f3 f0;refine eX _ _ ?_;clear eX K3;refine jD (Ai @f9 (eK i oM)) ?_;refine⟨⟨i+1,oM,fun _=>hz,?_,rfl,f8,f3,f0,rfl⟩,?_⟩
     ·intro j hj;by_cases e:j=i
      ·rw[e];exact hg
      ·exact fG j oM
     ·simp only[g9,dY,↓reduceIte];omega
    clear eX;refine jS (Ai @g3 (Ai (Ou hz) @g0)) fun K hK=>?_;refine b6 (YK i et _) ?_;rintro r s3 ⟨rfl,rfl⟩;by_cases hf:vH t i
    ·rw[dT hf];by_cases hp:i%2=0
     ·have t2:(mG (i:Int) 2==0)=true:=(by rw[vR];exact qZ oM);simp only[↓DM,eZ,DX,↓DN,Qa,Qb,Qc,Qd,Qe,Qf,Qg,Qh,seval,TT,qh,t2,g0,KC];refine b6 (hmc _ _) ?_;rintro r s4 ⟨rfl,rfl⟩;by_cases hm:j0 t ((i/2:Nat):Int)
      ·rw[dT hm];refine jN (Ai @qh (Ai @g0 (Ai @dB (Ai @et (Ai @gC (Ai @ou (Ai @KC @hq3))))))) ?_;refine b6 (hni _) ?_;rintro r s5 ⟨rfl,rfl⟩;by_cases hn:0<=NI
       ·have mq:¬mO t i:=fun k=>by
         have:=(kX.1 k).2 hp hm;exact absurd hn (of_decide_eq_false this)
        refine jV (dT hn) hK ?_;clear hK K;refine mS ?_;rw[Wr i et mq];exact jW ⟨rfl,rfl⟩
       ·have hg:mO t i:=kX.2 ⟨hf,fun _ _=>dF hn⟩;refine jV (dF hn) hK ?_;clear hK K;refine gW ?_;simp only[dn,dJ,if_true,if_false];exact fu hg _ g9 g8 g3 g0
      ·have hg:mO t i:=kX.2 ⟨hf,fun _ k=>absurd k hm⟩;rw[dF hm];refine jR hK ?_;clear hK K;refine gW ?_;simp only[dn,dJ,if_true,if_false];exact fu hg _ g9 g8 g3 g0
     ·have t2:(mG (i:Int) 2==0)=false:=(by rw[vR];exact pt oM);have hg:mO t i:=kX.2 ⟨hf,fun k=>absurd k hp⟩;simp only[↓DM,eZ,DX,↓DN,Qa,Qb,Qc,Qd,Qe,Qf,Qg,Qh,seval,TT,qh,t2];refine hK _ _ ?_;clear hK K;refine gW ?_;simp only[dn,dJ,if_true,if_false];exact fu hg _ g9 g8 g3 g0
    ·have mq:¬mO t i:=fun k=>hf k.1;rw[dF hf];refine jR hK ?_;clear hK K;refine mS ?_;rw[Wr i et mq];exact jW ⟨rfl,rfl⟩
  ·refine jB (Ai @g9 (Ai @g8 (Ai @dB (dF et)))) ?_;refine Jb fun K2 eH=>?_;simp only[dJ,dn,if_true];refine hK _ _ ?_;have Tm:∀j,j<t.length->mO t j:=fun j h=>fG j oM;by_cases hz:ee t=0
   ·have hp:decide ((0:Int)<((ee t:Nat):Int))=false:=dF oM;refine jB (Ai @g3 (Ai (pt (show ¬((ee t:Nat):Int)=1 by omega)) @hp)) ?_;refine jI ?_;rw[Wq hz];exact jW ⟨rfl,rfl⟩
   ·have hp:decide ((0:Int)<((ee t:Nat):Int))=true:=dT oM;have iz:=tB hz Tm;by_cases h1:ee t=1
    ·have e1:=qZ (show((ee t:Nat):Int)=1 by omega);rw[e1] at iz;refine jB (Ai @g3 @e1) ?_;refine jI ?_;rw[iz];exact jW ⟨rfl,rfl⟩
    ·have e1:=pt (show ¬((ee t:Nat):Int)=1 by omega);rw[e1,bq] at iz;have e2:nn .i64 (ee t:Int) 2=((ee t/2:Nat):Int):=iI _ oM;have e3:gR .i64 (ee t:Int) 1=(((ee t/2+(ee t-ee t/2):Nat)):Int)-1:=(by rw[fD oM];omega);have hcm:=fun s=>Jf (ee t/2) (ee t-ee t/2) oM s;generalize (((ee t/2+(ee t-ee t/2):Nat)):Int)-1=LL at *
     refine jS (Ai @g3 (Ai @e1 (Ai @hp (Ai @qh (Ai @e2 (Ai @e3 @g0)))))) fun K hK=>?_;refine b6 (hcm _) ?_;rintro r s3 ⟨rfl,rfl⟩;refine jR hK ?_;refine jI ?_;rw[iz];exact jW ⟨rfl,rfl⟩
theorem pU(t:List cH)(ht:t.length<=2^61)(s:AS):aI prog Γ 20 [eA t] s (.v (.int .i64 (ee t))):=by
 refine xH func20 ntmps20 results20 ?_;unfold eA;generalize eb cH.cells t=X at *
 refine Q2 fun K hK=>?_;refine dU (fun E s2=>∃j:Nat,j<=6∧(∀k,k<j->t.length≠2*2^k-1)∧E 3=.v (.int .i64 ((2^j:Nat):Int))∧E 0=.sl 5 t.length X .any∧s2=s)
  (fun E _=>match E 3 with |.v (.int _ i)=>100-i.toNat|_=>0) ?_ ?_
 ·exact⟨0,oM,fun k h=>absurd h (cN _),rfl,rfl,rfl⟩
 ·rintro E1 s2 ⟨j,hj,fG,g3,g0,rfl⟩ -
  refine wK fun K2 eH=>?_;by_cases nH:j<=5
  ·have hp:=rX nH;have e1:mF .i64 2 ((2^j:Nat):Int)=((2*2^j:Nat):Int):=fp _ oM;have e2:gR .i64 ((2*2^j:Nat):Int) 1=((2*2^j-1:Nat):Int):=(by rw[fD oM];omega);have e3:mF .i64 ((2^j:Nat):Int) 2=((2^(j+1):Nat):Int):=(by rw[iv oM,cj];omega);have h1:decide (((2^j:Nat):Int)<=32)=true:=dT oM;generalize hP:2^j=P at *
   refine jB (Ai @g3 @h1) ?_;refine ue ?_;refine eH _ _<|nF fun K3 eX=>?_;by_cases he:t.length=2*P-1
   ·refine jB (Ai @g0 (Ai @g3 (Ai @e1 (Ai @e2 (xbP he))))) ?_;refine jE<|jB @g3 ?_;refine jI ?_;rw[NH (by rw[<-hP];exact We nH) he];exact jW ⟨rfl,rfl⟩
   ·refine jB (Ai @g0 (Ai @g3 (Ai @e1 (Ai @e2 (xfY he))))) ?_;refine gW ?_;simp only[dn,dJ,if_true,if_false];refine eX _ _<|jD (Ai @g3 @e3) ?_;refine⟨⟨j+1,oM,?_,rfl,g0,rfl⟩,?_⟩
    ·intro k hk;by_cases e:k=j
     ·rw[e,hP];exact he
     ·exact fG k oM
    ·have :P<2^(j+1):=(by rw[cj,hP];omega);simp only[g3,dY,↓reduceIte];omega
  ·obtain rfl:j=6:=oM;have h1:decide (((2^6:Nat):Int)<=32)=false:=dM;refine jB (Ai @g3 @h1) ?_;refine sI ?_;simp only[dJ,dn,if_true];refine hK _ _<|wq ?_;rw[Td (t:=t) (fun n hn=>by obtain⟨m,hm,rfl⟩:=hn.pow;exact fG m oM)];exact jW ⟨rfl,rfl⟩
theorem kZ(t:List cH)(ht:t.length<=2^61)(i:Int)(s:AS):aI prog Γ 21 [eA t,.v (.int .i64 i)] s (.v (.bool (decide (gE t i)))):=by
 refine xH func21 ntmps21 results21 ?_;have gO:=fun i(h:i<t.length)=>gL (t:=t) h;unfold eA;generalize eb cH.cells t=X at *
 have uS:¬gE t i->decide (gE t i)=false:=fun h=>dF h;refine jA ?_;by_cases h0:0<=i
 ·obtain⟨n,rfl⟩:=ba h0;by_cases h1:n<t.length
  ·have e1:=fp n oM;by_cases h2:2*n<t.length
   ·have ou:=gO (2*n) h2;have hk:decide (gE t (n:Int))=((nd t (2*n)).kind==1):=by
     rw[bX,decide_eq_true_iff,beq_iff_eq];unfold gE;rw[aC];exact⟨fun k=>k.2.2,fun k=>⟨h0,oM,k⟩⟩
    generalize nd t (2*n)=N at *
    obtain⟨k,nm,y,pa,u⟩:=N;unfold cH.cells at ou;have gC:(0:Int)<=((2*n:Nat):Int):=oM;refine jB (Ai (dT h0) (Ai @dB (Ai (dT h1) (Ai (dT h2) (Ai @e1 (Ai @h2 (Ai @gC @ou))))))) ?_;refine jI ?_;rw[hk];exact jW ⟨rfl,rfl⟩
   ·refine jB (Ai (dT h0) (Ai @dB (Ai (dT h1) (Ai (dF h2) @e1)))) ?_;refine jI ?_;rw[uS (fun k=>by have:=k.2.1;omega)];exact jW ⟨rfl,rfl⟩
  ·refine jB (Ai (dT h0) (Ai @dB (dF h1))) ?_;refine jI ?_;rw[uS (fun k=>by have:=k.2.1;omega)];exact jW ⟨rfl,rfl⟩
 ·refine jB (dF h0) ?_;refine jI ?_;rw[uS (fun k=>h0 k.1)];exact jW ⟨rfl,rfl⟩
theorem xcP{a b:List UInt8}(h:a=b):(a==b)=true:=by simpa using h
theorem xcQ{a b:List UInt8}(h:a≠b):(a==b)=false:=by simpa using h
theorem En(t:List cH)(ht:t.length<=2^61)(a k:Nat)(hak:a+k<2^61)(s:AS):aI prog Γ 66 [eA t,.v (.int .i64 a),.v (.int .i64 (((a+k:Nat):Int)-1))] s (.v (.int .i64 (mr (gE t) a k))):=by
 refine xH func66 ntmps66 results66 ?_;have hm:=fun i s=>kZ (Γ:=Γ) t ht i s;unfold eA at hm⊢;generalize eb cH.cells t=X at *
 refine UL fun K hK=>?_;refine dU (fun E s2=>∃i:Nat,i<=k∧E 8=.v (.int .i64 ((a+i:Nat):Int))∧E 7=.v (.int .i64 (mr (gE t) a i))∧E 0=.sl 5 t.length X .any∧E 2=.v (.int .i64 (((a+k:Nat):Int)-1))∧s2=s)
  (fun E _=>match E 8 with |.v (.int _ i)=>a+k-i.toNat|_=>0) ?_ ?_
 ·exact⟨0,aA _,rfl,rfl,rfl,rfl,rfl⟩
 ·rintro E1 s2 ⟨i,hi,g8,g7,g0,g2,rfl⟩ -
  refine wK fun K2 eH=>?_;by_cases et:i<k
  ·have h1:decide (((a+i:Nat):Int)<=((a+k:Nat):Int)-1)=true:=dT oM;refine jB (Ai @g8 (Ai @g2 @h1)) ?_;refine ue ?_;refine eH _ _<|nF fun K3 eX=>?_;have fu:∀(E:Env),E 8=.v (.int .i64 ((a+i:Nat):Int))->E 7=.v (.int .i64 (mr (gE t) a (i+1)))->E 0=.sl 5 t.length X .any->E 2=.v (.int .i64 (((a+k:Nat):Int)-1))->K3 E s2:=by
    intro E f8 f7 f0 f2;refine eX _ _ ?_;clear eX K3;refine jD (Ai @f8 (eK (a+i) oM)) ?_;refine⟨⟨i+1,et,rfl,f7,f0,f2,rfl⟩,?_⟩;simp only[g8,dY,↓reduceIte];omega
   clear eX;refine jS (Ai @g0 @g8) fun K hK=>?_;refine b6 (hm _ _) ?_;rintro r s3 ⟨rfl,rfl⟩;have hc:=Iq (gE t) a i;by_cases hp:gE t ((a+i:Nat):Int)
   ·rw[dT hp];refine jR hK ?_;clear hK K;refine jE<|jD (Ai @g7 (eK (mr (gE t) a i) oM)) ?_;refine fu _ g8 ?_ g0 g2;have :mr (gE t) a (i+1)=mr (gE t) a i+1:=(by simp only[mr];rw[if_pos hp]);rw[this];simp only[dY,Nc,↓reduceIte]
   ·rw[dF hp];refine jR hK ?_;clear hK K;refine gW ?_;refine fu _ g8 ?_ g0 g2;have :mr (gE t) a (i+1)=mr (gE t) a i:=(by simp only[mr];rw[if_neg hp];omega);rw[this];simp only[dY,g7,Nc,↓reduceIte]
  ·have h1:decide (((a+i:Nat):Int)<=((a+k:Nat):Int)-1)=false:=dF oM;refine jB (Ai @g8 (Ai @g2 @h1)) ?_;refine sI ?_;simp only[dJ,dn,if_true];refine hK _ _ ?_;obtain rfl:i=k:=oM;refine jB @g7 ?_;exact jJ
theorem Eo(t:List cH)(ht:t.length<=2^61)(name:List UInt8)(s:AS):aI prog Γ 64 [eA t,.v (.string ⟨name.toArray⟩)] s (.v (.int .i64 (xU t name))):=by
 refine xH func64 ntmps64 results64 ?_;have hm:=fun i s=>kZ (Γ:=Γ) t ht i s;have gO:=fun i(h:i<t.length)=>gL (t:=t) h;obtain⟨Q,hQ⟩:∃Q:Nat->Bool,Q=fun(j:Nat)=>decide (gE t (j:Int)∧(nd t (2*j)).name=name):=⟨_,rfl⟩;have iz:xU t name=fZ Q (kS t-0) 0:=(by rw[hQ];rfl);unfold eA at hm⊢;generalize eb cH.cells t=X at *
 refine Q2 fun K hK=>?_;refine dU (fun E s2=>∃i:Nat,i<=2^61∧fZ Q (kS t-i) i=fZ Q (kS t-0) 0∧E 5=.v (.int .i64 i)∧E 0=.sl 5 t.length X .any∧E 1=.v (.string ⟨name.toArray⟩)∧s2=s)
  (fun E _=>match E 5 with |.v (.int _ i)=>kS t-i.toNat|_=>0) ?_ ?_
 ·exact⟨0,oM,rfl,rfl,rfl,rfl,rfl⟩
 ·rintro E1 s2 ⟨i,hi,hf,g7,g0,g1,rfl⟩ -
  refine wK fun K2 eH=>?_;by_cases et:i<kS t
  ·have kR:2*i<t.length:=Ef.1 et;refine jB (Ai @g7 (Ai @g0 (Ai (fp i oM) (Ai @dB (dT kR))))) ?_;refine ue ?_;refine eH _ _<|nF fun K3 eX=>?_;obtain⟨k,hk⟩:∃k,kS t-i=k+1:=⟨kS t-i-1,oM⟩;have sC:kS t-(i+1)=k:=oM;rw[hk] at hf;have EU:Q i=decide (gE t i∧(nd t (2*i)).name=name):=(by rw[hQ]);have fu:∀(E:Env),Q i=false->E 5=.v (.int .i64 i)->E 0=.sl 5 t.length X .any->E 1=.v (.string ⟨name.toArray⟩)->K3 E s2:=by
    intro E hq f7 f0 f1;refine eX _ _ ?_;clear eX K3;refine jD (Ai @f7 (eK i oM)) ?_;refine⟨⟨i+1,oM,by rw[sC,<-hf,pA hq],rfl,f0,f1,rfl⟩,?_⟩;simp only[g7,dY,↓reduceIte];omega
   clear eX;have ou:=gO (2*i) kR;generalize nd t (2*i)=N at *
   obtain⟨nk,nm,ny,pH,nu⟩:=N;unfold cH.cells at ou;simp only at EU;have gC:(0:Int)<=((2*i:Nat):Int):=oM;refine jS (Ai @g0 @g7) fun K hK=>?_;refine b6 (hm _ _) ?_;rintro r s3 ⟨rfl,rfl⟩;by_cases hp:gE t (i:Int)
   ·rw[dT hp];by_cases hn:nm=name
    ·rw[dT ⟨hp,hn⟩] at EU;refine jV (Ai @g0 (Ai @g7 (Ai @g1 (Ai (fp i oM) (Ai @dB (Ai @kR (Ai @gC (Ai @ou (xcP hn))))))))) hK ?_;clear hK K;refine jE<|jB @g7 ?_;refine jI ?_;rw[iz,<-hf,pz EU];exact jW ⟨rfl,rfl⟩
    ·rw[dF (fun q=>hn q.2)] at EU;refine jV (Ai @g0 (Ai @g7 (Ai @g1 (Ai (fp i oM) (Ai @dB (Ai @kR (Ai @gC (Ai @ou (xcQ hn))))))))) hK ?_;clear hK K;refine gW ?_;exact fu _ EU g7 g0 g1
   ·rw[dF hp];rw[dF (fun q=>hp q.1)] at EU;refine jR hK ?_;clear hK K;refine gW ?_;exact fu _ EU g7 g0 g1
  ·have kR:¬2*i<t.length:=fun h=>et (Ef.2 h);refine jB (Ai @g7 (Ai @g0 (Ai (fp i oM) (Ai @dB (dF kR))))) ?_;refine sI ?_;simp only[dJ,dn,if_true];refine hK _ _ ?_;rw[show kS t-i=0 by omega] at hf;refine wq ?_;rw[iz,<-hf];exact jW ⟨rfl,rfl⟩
theorem KZ{t:List cH}:eJ t↔ee t≠0∧(∀i,i<t.length->zw t i)∧(ee t=1∨0<mr (gE t) (ee t/2) (ee t-ee t/2)):=by
 unfold eJ;constructor
 ·rintro⟨a,b,c⟩;exact⟨a,(KV a).2 b,c.imp id fun q=>by rw[xR (Ed a)];exact q⟩
 ·rintro⟨a,b,c⟩;exact⟨a,(KV a).1 b,c.imp id fun q=>by rw[<-xR (Ed a)];exact q⟩
theorem sU(t:List cH)(ht:iD t)(s:AS):aI prog Γ 16 [eA t] s (.v (.bool (decide (eJ t)))):=by
 refine xH func16 ntmps16 results16 ?_;have nD:=ht.1;have tT:=fun s=>pU (Γ:=Γ) t nD s;have hmc:=fun i s=>kZ (Γ:=Γ) t nD i s;have Hf:=fun name s=>Eo (Γ:=Γ) t nD name s;have Jf:=fun a k h s=>En (Γ:=Γ) t nD a k h s;have hrn:=fun i s=>A2 (Γ:=Γ) (nd t i) (ht.nd i).1 s;have hul:=fun i=>(ht.nd i).1;have gO:=fun i(h:i<t.length)=>gL (t:=t) h;have hlv:=Ia t;have Tl:ee t≠0->t.length=2*ee t-1:=fun h=>(fA.resolve_left h).2;have Wq:ee t=0->decide (eJ t)=false:=fun h=>dF fun k=>k.1 h;have Wr:∀i,i<t.length->¬zw t i->decide (eJ t)=false:=fun i h1 h2=>dF fun k=>h2 ((KZ.1 k).2.1 i h1);have tB:ee t≠0->(∀i,i<t.length->zw t i)->decide (eJ t)=(((ee t:Int)==1)||decide ((0:Int)<(mr (gE t) (ee t/2) (ee t-ee t/2):Int))):=by
  intro h1 h2;rw[bX,decide_eq_true_iff,cp,beq_iff_eq,decide_eq_true_iff,KZ];constructor
  ·rintro⟨_,_,h3⟩;exact h3.imp (fun q=>oM) (fun q=>oM)
  ·intro h3;exact⟨h1,h2,h3.imp (fun q=>oM) (fun q=>oM)⟩
 unfold eA at *
 generalize eb cH.cells t=X at *
 generalize decide (eJ t)=Wp at *
 refine jA ?_;refine jK (tT _) ?_;rintro s1 rfl;refine wK fun K hK=>?_;by_cases hz:ee t=0
 ·refine jB (VG hz) ?_;refine mS ?_;rw[Wq hz];exact jW ⟨rfl,rfl⟩
 ·refine jB (Ou hz) ?_;refine gW ?_;refine hK _ _ ?_;have hlen:=Tl hz;refine Jc fun K hK=>?_;refine dU (fun E s2=>∃i:Nat,i<=t.length∧(∀j,j<i->zw t j)∧E 4=.v (.int .i64 i)∧E 3=.v (.int .i64 (ee t))∧E 0=.sl 5 t.length X .any∧s2=s1)
   (fun E _=>match E 4 with |.v (.int _ i)=>t.length-i.toNat|_=>0) ?_ ?_
  ·exact⟨0,aA _,fun j h=>absurd h (cN _),rfl,rfl,rfl,rfl⟩
  ·rintro E1 s2 ⟨i,hi,fG,g4,g3,g0,rfl⟩ -
   refine wK fun K2 eH=>?_;by_cases et:i<t.length
   ·refine jB (Ai @g4 (Ai @g0 (Ai @dB (dT et)))) ?_;refine ue ?_;refine eH _ _<|nF fun K3 eX=>?_;have Ep:=Wr i et;have kX:zw t i↔(nd t i).right∧((nd t i).kind=0∨((nd t i).kind=1↔i%2=0))∧((nd t i).kind=1->xU t (nd t i).name=((i/2:Nat):Int))∧∀u∈(nd t i).nS,(pr (i:Int)).1<=u∧u<=(pr (i:Int)).2∧gE t u:=Iff.rfl;have ou:=gO i et;have Z3:=hrn i;have xgW:=hul i;have hni:=fun s=>Hf (nd t i).name s;have hun:=fun s=>sK (Γ:=Γ) (i:Int) s;generalize (pr (i:Int)).1=ua at *
    generalize (pr (i:Int)).2=ub at *
    generalize xU t (nd t i).name=NI at *
    generalize nd t i=N at *
    obtain⟨nk,nm,ny,pH,nu⟩:=N;unfold cH.cells at ou Z3;simp only at hni xgW kX;unfold ea at ou Z3;have gC:(0:Int)<=(i:Int):=oM;have vR:mG (i:Int) 2=((i%2:Nat):Int):=mI i 2;have KC:nn .i64 (i:Int) 2=((i/2:Nat):Int):=iI i oM;have bb:((true != true)=false∧(false != false)=false)∧((true != false)=true∧(false != true)=true):=⟨⟨rfl,rfl⟩,rfl,rfl⟩;have bc:((true==true)=true∧(false==false)=true)∧((true==false)=false∧(false==true)=false):=⟨⟨rfl,rfl⟩,rfl,rfl⟩;have fu:zw t i->∀(E:Env),E 4=.v (.int .i64 i)->E 3=.v (.int .i64 (ee t))->E 0=.sl 5 t.length X .any->K3 E s2:=by
     intro hg E f4 f3 f0;refine eX _ _ ?_;clear eX K3;refine jD (Ai @f4 (eK i oM)) ?_;refine⟨⟨i+1,oM,?_,rfl,f3,f0,rfl⟩,?_⟩
     ·intro j hj;by_cases e:j=i
      ·rw[e];exact hg
      ·exact fG j oM
     ·simp only[g4,dY,↓reduceIte];omega
    clear eX;refine ev 5 dM ?_;intro K5 mE;refine jN (Ai @g0 (Ai @g4 (Ai @dB (Ai @et (Ai @gC @ou))))) ?_;intro o1 h1;refine mE _ _ o1 _ rfl h1 ?_;clear mE K5 h1;refine wK fun K4 jm=>?_;have h4:(cH.right ⟨nk,nm,ny,pH,nu⟩∧(nk=0∨(nk=1↔i%2=0)))->∀(E:Env),E 4=.v (.int .i64 i)->E 3=.v (.int .i64 (ee t))->E 0=.sl 5 t.length X .any->E 5=.ij [.v (.int .i64 nk),.sl 1 nm.length (nm.map cU) .any,.v (.int .u64 ny),.sl 1 pH.length (pH.map cU) .any,.sl 1 nu.length (nu.map ed) .any]->K4 E s2:=by
     clear g4 g3 g0;rintro⟨gr,gk⟩ E g4 g3 g0 g5;refine jm _ _ ?_;clear jm K4;refine wK fun K6 ll=>?_;have h6:(nk=1->NI=((i/2:Nat):Int))->∀(E:Env),E 4=.v (.int .i64 i)->E 3=.v (.int .i64 (ee t))->E 0=.sl 5 t.length X .any->E 5=.ij [.v (.int .i64 nk),.sl 1 nm.length (nm.map cU) .any,.v (.int .u64 ny),.sl 1 pH.length (pH.map cU) .any,.sl 1 nu.length (nu.map ed) .any]->K6 E s2:=by
      clear g4 g3 g0 g5;intro gn E g4 g3 g0 g5;refine ll _ _ ?_;clear ll K6;refine jS @g4 fun K hK=>?_;refine b6 (hun _) ?_;rintro r s3 ⟨rfl,rfl⟩;refine jR hK ?_;clear hK K;refine xKl ?_;refine dU (fun E s4=>∃k:Nat,k<=nu.length∧(∀u∈nu.take k,ua<=u∧u<=ub∧gE t u)∧E 8=.v (.int .i64 k)∧E 6=.v (.int .i64 ua)∧E 7=.v (.int .i64 ub)∧E 4=.v (.int .i64 i)∧E 3=.v (.int .i64 (ee t))∧E 0=.sl 5 t.length X .any∧E 5=.ij [.v (.int .i64 nk),.sl 1 nm.length (nm.map cU) .any,.v (.int .u64 ny),.sl 1 pH.length (pH.map cU) .any,.sl 1 nu.length (nu.map ed) .any]∧s4=s3)
       (fun E _=>match E 8 with |.v (.int _ i)=>nu.length-i.toNat|_=>0) ?_ ?_
      ·exact⟨0,aA _,(by intro u hu;simp at hu),rfl,rfl,rfl,g4,g3,g0,g5,rfl⟩
      ·clear g4 g3 g0 g5;rintro E2 s4 ⟨k,hk,hku,g8,g6,g7,g4,g3,g0,g5,rfl⟩ -
       refine wK fun K7 v7=>?_;by_cases sC:k<nu.length
       ·refine jB (Ai @g8 (Ai @g5 (Ai @dB (dT sC)))) ?_;refine ue ?_;refine v7 _ _<|nF fun K8 EW=>?_;have RV:(0:Int)<=(k:Int):=oM;have NR:=jt sC;have Tn:nu[k]∈nu:=bg sC;have xgY:nu.take (k+1)=nu.take k++[nu[k]]:=af sC;generalize nu[k]=u at *
        have xcR:(ua<=u∧u<=ub∧gE t u)->∀(E:Env),E 8=.v (.int .i64 k)->E 6=.v (.int .i64 ua)->E 7=.v (.int .i64 ub)->E 4=.v (.int .i64 i)->E 3=.v (.int .i64 (ee t))->E 0=.sl 5 t.length X .any->E 5=.ij [.v (.int .i64 nk),.sl 1 nm.length (nm.map cU) .any,.v (.int .u64 ny),.sl 1 pH.length (pH.map cU) .any,.sl 1 nu.length (nu.map ed) .any]->K8 E s4:=by
         intro hu E f8 f6 f7 f4 f3 f0 f5;refine EW _ _ ?_;clear EW K8;refine jD (Ai @f8 (eK k oM)) ?_;refine⟨⟨k+1,oM,?_,rfl,f6,f7,f4,f3,f0,f5,rfl⟩,?_⟩
         ·intro v hv;rw[xgY,cu,cg] at hv;rcases hv with hv|rfl
          ·exact hku v hv
          ·exact hu
         ·simp only[g8,dY,↓reduceIte];omega
        clear EW;refine jB (Ai @g5 (Ai @g8 (Ai @dB (Ai @sC (Ai @RV (Ai @NR @ed.eq_1)))))) ?_;by_cases u1:u<ua
        ·refine jB (Ai @g6 (dT u1)) ?_;refine mS ?_;rw[Ep (fun q=>by have:=((kX.1 q).2.2.2 u Tn).1;omega)];exact jW ⟨rfl,rfl⟩
        ·by_cases u2:ub<u
         ·refine jB (Ai @g6 (Ai @g7 (Ai (dF u1) (dT u2)))) ?_;refine mS ?_;rw[Ep (fun q=>by have:=((kX.1 q).2.2.2 u Tn).2.1;omega)];exact jW ⟨rfl,rfl⟩
         ·refine jS (Ai @g6 (Ai @g7 (Ai @g0 (Ai (dF u1) (dF u2))))) fun K hK=>?_;refine b6 (hmc _ _) ?_;rintro r s5 ⟨rfl,rfl⟩;by_cases u3:gE t u
          ·rw[dT u3];refine jR hK ?_;clear hK K;refine gW ?_;simp only[dn,dJ,if_true,if_false];exact xcR ⟨oM,oM,u3⟩ _ g8 g6 g7 g4 g3 g0 g5
          ·rw[dF u3];refine jR hK ?_;clear hK K;refine mS ?_;rw[Ep (fun q=>u3 ((kX.1 q).2.2.2 u Tn).2.2)];exact jW ⟨rfl,rfl⟩
       ·refine jB (Ai @g8 (Ai @g5 (Ai @dB (dF sC)))) ?_;refine sI ?_;simp only[dJ,dn,if_true,if_false];rw[ad oM] at hku;exact fu (kX.2 ⟨gr,gk,gn,hku⟩) _ g4 g3 g0
     clear ll;by_cases k1:nk=1
     ·refine jS (Ai @g5 (Ai (qZ k1) @g0)) fun K hK=>?_;refine b6 (hni _) ?_;rintro r s3 ⟨rfl,rfl⟩;by_cases hn:NI=((i/2:Nat):Int)
      ·refine jV (Ai @g4 (Ai @qh (Ai @KC (eqI hn)))) hK ?_;clear hK K;refine gW ?_;exact h6 (fun _=>hn) _ g4 g3 g0 g5
      ·refine jV (Ai @g4 (Ai @qh (Ai @KC (neI hn)))) hK ?_;clear hK K;refine mS ?_;rw[Ep (fun q=>hn ((kX.1 q).2.2.1 k1))];exact jW ⟨rfl,rfl⟩
     ·refine jB (Ai @g5 (pt k1)) ?_;refine gW ?_;exact h6 (fun q=>absurd q k1) _ g4 g3 g0 g5
    clear jm;refine jQ fun K hK=>?_;refine b6 (Z3 _) ?_;rintro r s3 ⟨rfl,rfl⟩;by_cases gr:cH.right ⟨nk,nm,ny,pH,nu⟩
    ·rw[dT gr];by_cases k0:nk=0
     ·refine jV (eqI k0) hK ?_;clear hK K;refine gW ?_;exact h4 ⟨gr,.inl k0⟩ _ g4 g3 g0 rfl
     ·by_cases k1:nk=1
      ·by_cases kp:i%2=0
       ·have t2:(mG (i:Int) 2==0)=true:=(by rw[vR];exact qZ oM);simp only[↓DM,eZ,DX,↓DN,Qa,Qb,Qc,Qd,Qe,Qf,Qg,Qh,seval,TT,neI k0,qZ k1,g4,qh,t2,bb,bc];refine hK _ _ ?_;clear hK K;refine gW ?_;exact h4 ⟨gr,.inr ⟨fun _=>kp,fun _=>k1⟩⟩ _ g4 g3 g0 rfl
       ·have t2:(mG (i:Int) 2==0)=false:=(by rw[vR];exact pt oM);simp only[↓DM,eZ,DX,↓DN,Qa,Qb,Qc,Qd,Qe,Qf,Qg,Qh,seval,TT,neI k0,qZ k1,g4,qh,t2,bb,bc];refine hK _ _ ?_;clear hK K;refine mS ?_;rw[Ep (fun q=>by rcases(kX.1 q).2.1 with h|h;exact k0 h;exact kp (h.1 k1))];exact jW ⟨rfl,rfl⟩
      ·by_cases kp:i%2=0
       ·have t2:(mG (i:Int) 2==0)=true:=(by rw[vR];exact qZ oM);simp only[↓DM,eZ,DX,↓DN,Qa,Qb,Qc,Qd,Qe,Qf,Qg,Qh,seval,TT,neI k0,pt k1,g4,qh,t2,bb,bc];refine hK _ _ ?_;clear hK K;refine mS ?_;rw[Ep (fun q=>by rcases(kX.1 q).2.1 with h|h;exact k0 h;exact k1 (h.2 kp))];exact jW ⟨rfl,rfl⟩
       ·have t2:(mG (i:Int) 2==0)=false:=(by rw[vR];exact pt oM);simp only[↓DM,eZ,DX,↓DN,Qa,Qb,Qc,Qd,Qe,Qf,Qg,Qh,seval,TT,neI k0,pt k1,g4,qh,t2,bb,bc];refine hK _ _ ?_;clear hK K;refine gW ?_;exact h4 ⟨gr,.inr ⟨fun h=>absurd h k1,fun h=>absurd h kp⟩⟩ _ g4 g3 g0 rfl
    ·rw[dF gr];refine jR hK ?_;clear hK K;refine mS ?_;rw[Ep (fun q=>gr (kX.1 q).1)];exact jW ⟨rfl,rfl⟩
   ·refine jB (Ai @g4 (Ai @g0 (Ai @dB (dF et)))) ?_;refine sI ?_;simp only[dJ,dn,if_true];refine hK _ _ ?_;have Tm:∀j,j<t.length->zw t j:=fun j h=>fG j oM;have iz:=tB hz Tm;by_cases h1:ee t=1
    ·have e1:=qZ (show((ee t:Nat):Int)=1 by omega);rw[e1] at iz;refine jB (Ai @g3 @e1) ?_;refine jI ?_;rw[iz];exact jW ⟨rfl,rfl⟩
    ·have e1:=pt (show ¬((ee t:Nat):Int)=1 by omega);rw[e1,bq] at iz;have e2:nn .i64 (ee t:Int) 2=((ee t/2:Nat):Int):=iI _ oM;have e3:gR .i64 (ee t:Int) 1=(((ee t/2+(ee t-ee t/2):Nat)):Int)-1:=(by rw[fD oM];omega);have hcm:=fun s=>Jf (ee t/2) (ee t-ee t/2) oM s;generalize (((ee t/2+(ee t-ee t/2):Nat)):Int)-1=LL at *
     refine jS (Ai @g3 (Ai @e1 (Ai @qh (Ai @e2 (Ai @e3 @g0))))) fun K hK=>?_;refine b6 (hcm _) ?_;rintro r s3 ⟨rfl,rfl⟩;refine jR hK ?_;refine jI ?_;rw[iz];exact jW ⟨rfl,rfl⟩
theorem Er(s:AS):aI prog Γ 51 [eW] s (dm [] .any):=by
 refine xH func51 ntmps51 results51 ?_;unfold eW;refine xKw fun K hK=>?_;refine mS ?_;exact⟨_,_,AV.eh,AS.le.refl _,rfl,rfl⟩
theorem FP(l:List UInt8)(s:AS)(hl:l.length<=2^45):aI prog Γ 51 [dm l .no] s (dm l .any):=by
 refine xH func51 ntmps51 results51 ?_;unfold dm;refine yd fun K hK=>?_;refine jB @and_false ?_;refine gW ?_;refine hK _ _ ?_;by_cases h0:l.length=0
 ·have zX:l=[]:=List.eq_nil_of_length_eq_zero h0;subst zX;refine wq ?_;exact⟨_,s,AV.fc,AS.le.refl s,rfl,rfl⟩
 ·refine jS @h0 fun K hK=>?_;refine⟨oM,oM,fun t ht=>hK _ _ ?_⟩;refine jI ?_;exact⟨_,s,AV.fc,AS.eE (AS.le.refl s) ht 0,rfl,rfl⟩
theorem mn(l:List UInt8)(s:AS)(hl:l.length<=2^45):aI prog Γ 51 [dm l .any] s (dm l .any):=
 dS.any (pre:=[]) (post:=[]) (fun e=>by subst e;exact Er s) (FP l s hl)
theorem oe(hG:Γ 3=lQ.map uU)(t:List cH)(ht:iD t)(s:AS):aI prog Γ 45 [eA t] s (.v (.int .i64 (if eJ t then ee t else 0:Nat))):=by
 refine xH func45 ntmps45 results45 ?_;have hr:=fun s=>pc (Γ:=Γ) hG t ht s;have hl:=fun s=>tS (Γ:=Γ) t ht.1 s;unfold eA at *
 generalize eb cH.cells t=X at *
 refine Q1 fun K hK K hK=>?_;refine b6 (hr _) ?_;rintro r s1 ⟨rfl,rfl⟩;by_cases h:eJ t
 ·rw[dT h];refine jR hK ?_;clear hK K;refine gW ?_;refine hK _ _ ?_;clear hK K;refine jK (hl _) ?_;rintro s2 rfl;refine jI ?_;rw[if_pos h];exact jW ⟨rfl,rfl⟩
 ·rw[dF h];refine jR hK ?_;refine mS ?_;rw[if_neg h];exact jW ⟨rfl,rfl⟩
def lz(x i:Int):Bool:=decide ((pr x).1<=i∧i<=(pr x).2)
theorem w9(hG:Γ 3=lQ.map uU)(x i:Int)(s:AS):aI prog Γ 73 [.v (.int .i64 x),.v (.int .i64 i)] s (.v (.bool (lz x i))):=by
 refine xH func73 ntmps73 results73 ?_;have hu:=fun s=>wT (Γ:=Γ) hG x s;unfold lz;generalize pr x=U at *
 refine jA ?_;refine jK (hu _) ?_;rintro s1 rfl;by_cases h:U.1<=i
 ·refine jB (dT h) ?_;refine jI ?_;exact jW ⟨by simp[h],rfl⟩
 ·refine jB (dF h) ?_;refine jI ?_;exact jW ⟨by simp[h],rfl⟩
theorem A3(x i:Int)(s:AS):aI prog Γ 84 [.v (.int .i64 x),.v (.int .i64 i)] s (.v (.bool (lz x i))):=by
 refine xH func84 ntmps84 results84 ?_;have hu:=fun s=>sK (Γ:=Γ) x s;unfold lz;generalize pr x=U at *
 refine jA ?_;refine jK (hu _) ?_;rintro s1 rfl;by_cases h:U.1<=i
 ·refine jB (dT h) ?_;refine jI ?_;exact jW ⟨by simp[h],rfl⟩
 ·refine jB (dF h) ?_;refine jI ?_;exact jW ⟨by simp[h],rfl⟩
theorem ri(t:List cH)(ht:t.length<=2^61)(i:Int)(s:AS):aI prog Γ 70 [eA t,.v (.int .i64 i)] s (.v (.bool (decide (gE t i)))):=by
 refine xH func70 ntmps70 results70 ?_;unfold eA;have e0:nn .i64 (t.length:Int) 2=((t.length/2:Nat):Int):=iI _ oM;refine jA ?_;by_cases h0:0<=i
 ·obtain⟨n,rfl⟩:=ba h0;by_cases h1:n<=t.length/2
  ·by_cases h2:2*n<t.length
   ·have gO:=gL h2;have hk:decide (gE t (n:Int))=((nd t (2*n)).kind==1):=by
     rw[bX,decide_eq_true_iff,beq_iff_eq];unfold gE;rw[aC];exact⟨fun k=>k.2.2,fun k=>⟨h0,oM,k⟩⟩
    generalize nd t (2*n)=N at *
    generalize eb cH.cells t=X at *
    obtain⟨k,nm,y,pa,u⟩:=N;unfold cH.cells at gO;have gC:(0:Int)<=((2*n:Nat):Int):=oM;refine jB (Ai @qh (Ai (dT h0) (Ai @e0 (Ai (dT (show((n:Nat):Int)<=((t.length/2:Nat):Int) by omega)) (Ai (fp n oM) (Ai @dB (Ai @h2 (Ai @gC (Ai @gO (dT h2)))))))))) ?_;refine jI ?_;rw[hk];exact jW ⟨rfl,rfl⟩
   ·have hk:decide (gE t (n:Int))=false:=dF fun k=>h2 (by have:=k.2.1;omega);refine jB (Ai @qh (Ai (dT h0) (Ai @e0 (Ai (dT (show((n:Nat):Int)<=((t.length/2:Nat):Int) by omega)) (Ai (fp n oM) (Ai @dB (dF h2))))))) ?_;refine jI ?_;rw[hk];exact jW ⟨rfl,rfl⟩
  ·have hk:decide (gE t (n:Int))=false:=dF fun k=>h1 (by have:=k.2.1;omega);refine jB (Ai @qh (Ai (dT h0) (Ai @e0 (dF (show ¬((n:Nat):Int)<=((t.length/2:Nat):Int) by omega))))) ?_;refine jI ?_;rw[hk];exact jW ⟨rfl,rfl⟩
 ·have hk:decide (gE t i)=false:=dF fun k=>h0 k.1;refine jB (Ai @qh (dF h0)) ?_;refine jI ?_;rw[hk];exact jW ⟨rfl,rfl⟩
def qn(t:List cH)(i:Int):Int:=if eJ t then(if gE t i then 0 else 43) else 40
theorem BL(hG:Γ 3=lQ.map uU)(t:List cH)(ht:iD t)(i:Int)(s:AS):aI prog Γ 40 [eA t,.v (.int .i64 i)] s (.v (.int .i64 (qn t i))):=by
 refine xH func40 ntmps40 results40 ?_;have hr:=fun s=>pc (Γ:=Γ) hG t ht s;have hm:=fun s=>ri (Γ:=Γ) t ht.1 i s;unfold eA at *
 obtain⟨V,hV⟩:∃V,V=qn t i:=⟨_,rfl⟩;rw[<-hV];unfold qn at hV;generalize eb cH.cells t=X at *
 refine yd fun K hK=>?_;refine dH<|jQ fun K hK=>?_;refine b6 (hr _) ?_;rintro r s1 ⟨rfl,rfl⟩;by_cases h:eJ t
 ·rw[if_pos h] at hV;rw[dT h];refine jR hK ?_;clear hK K;refine jF<|jQ fun K hK=>?_;refine b6 (hm _) ?_;rintro r s2 ⟨rfl,rfl⟩;by_cases h2:gE t i
  ·rw[if_pos h2] at hV;rw[dT h2];refine jR hK ?_;clear hK K;refine gW ?_;simp only[dJ,dn];refine hK _ _ ?_;clear hK K;refine wq ?_;exact jW ⟨by rw[hV],rfl⟩
  ·rw[if_neg h2] at hV;rw[dF h2];refine jR hK ?_;clear hK K;refine mS ?_;exact jW ⟨by rw[hV],rfl⟩
 ·rw[if_neg h] at hV;rw[dF h];refine jR hK ?_;refine mS ?_;exact jW ⟨by rw[hV],rfl⟩
theorem Ea(t:List cH)(ht:iD t)(i:Int)(s:AS):aI prog Γ 52 [eA t,.v (.int .i64 i)] s (.v (.int .i64 (qn t i))):=by
 refine xH func52 ntmps52 results52 ?_;have hr:=fun s=>sU (Γ:=Γ) t ht s;have hm:=fun s=>kZ (Γ:=Γ) t ht.1 i s;unfold eA at *
 obtain⟨V,hV⟩:∃V,V=qn t i:=⟨_,rfl⟩;rw[<-hV];unfold qn at hV;generalize eb cH.cells t=X at *
 refine Q1 fun K hK K hK=>?_;refine b6 (hr _) ?_;rintro r s1 ⟨rfl,rfl⟩;by_cases h:eJ t
 ·rw[if_pos h] at hV;rw[dT h];refine jR hK ?_;clear hK K;refine gW ?_;refine hK _ _ ?_;clear hK K;refine UK fun K hK K hK=>?_;refine b6 (hm _) ?_;rintro r s2 ⟨rfl,rfl⟩;by_cases h2:gE t i
  ·rw[if_pos h2] at hV;rw[dT h2];refine jR hK ?_;clear hK K;refine gW ?_;refine hK _ _ ?_;clear hK K;refine wq ?_;exact jW ⟨by rw[hV],rfl⟩
  ·rw[if_neg h2] at hV;rw[dF h2];refine jR hK ?_;clear hK K;refine mS ?_;exact jW ⟨by rw[hV],rfl⟩
 ·rw[if_neg h] at hV;rw[dF h];refine jR hK ?_;refine mS ?_;exact jW ⟨by rw[hV],rfl⟩
theorem og(hG:Γ 3=lQ.map uU)(leaf l:Nat)(hl:Fit l)(hn:leaf<l)(s:AS):aI prog Γ 46 [.v (.int .i64 leaf),.v (.int .i64 l)] s (ea (ew (gT leaf l)) .any):=by
 refine xH func46 ntmps46 results46 ?_;have Ka:=hl.le;have Cu:=kV hl hn;have oA:=fun s=>qi (Γ:=Γ) hG leaf l hl hn s;have JB:=fun(i:Nat)(h:i<(dR leaf l).length)(s:AS)=>Ej (Γ:=Γ) hG (nodeAt leaf l i) l hl (rn hl hn h).1 (rn hl hn h).2.1 s;have To:(ew (gT leaf l)).length=(dR leaf l).length:=(by simp[fh,gT]);have ZB:∀i,i<(dR leaf l).length->(ew (gT leaf l)).take (i+1)=(ew (gT leaf l)).take i++[((fE (nodeAt leaf l i):Nat):Int)]:=by
  intro i hi;rw[af (by rw[To];exact hi)];simp[ew,gT]
 have UU:(ew (dR leaf l)).length=(dR leaf l).length:=fh _;have hPg:∀i,i<(dR leaf l).length->(ew (dR leaf l))[i]? =some ((nodeAt leaf l (i+1):Nat):Int):=by
  intro i hi;simp[ew,nodeAt,bm,hi]
 have Zl:nodeAt leaf l 0=2*leaf:=rfl;generalize ew (gT leaf l)=S at *
 generalize ew (dR leaf l)=W at *
 generalize nodeAt leaf l=D at *
 generalize (dR leaf l).length=k at *
 refine Zi ?_;refine jB (fp leaf oM) ?_;refine UK fun K hK K hK=>?_;refine b6 (oA _) ?_;rintro r s1 ⟨rfl,rfl⟩;refine jV @ea.eq_1 hK ?_;clear hK K;refine dH<|dU (fun E s2=>∃(i:Nat)(x:AV),i<=k∧E 15=.sl 1 W.length (W.map ed) .any∧E 16=.v (.int .i64 W.length)∧E 17=.v (.int .i64 i)∧E 1=.v (.int .i64 l)∧E 6=.v (.int .i64 (D i:Nat))∧E 5=x∧il 1 s1 s2 x i ((S.take i).map ed)∧s1.le s2)
  (fun E _=>k+1-re (E 5)) ?_ ?_
 ·refine⟨0,eW,aA _,rfl,rfl,rfl,rfl,?_,rfl,il.nil _ _ _,AS.le.refl _⟩;rw[Zl];simp only[dY,Nc,↓reduceIte]
 ·rintro E1 s2 ⟨i,x,hi,g15,g16,g17,g1,g6,g5,hx,hle⟩ -
  by_cases et:i<k
  ·have fB:((i:Nat):Int)<(W.length:Int):=oM;have h0:(0:Int)<=((i:Nat):Int):=oM;have lr:(aD 1 (aK i (W.map ed)))[0]? =some (AV.v (.int .i64 ((D (i+1):Nat):Int))):=by
    simp[aF,hPg i et,ed]
   refine jB (Ai @g16 (Ai @g17 (dT fB))) ?_;refine Ja fun K2 eH=>?_;refine eH _ _<|nF fun K3 eX=>?_;refine jB (Ai @g15 (Ai @g17 (Ai @fB (Ai @h0 @lr)))) ?_;refine jS (Ai @g6 @g1) fun K hK=>?_;refine b6 (JB i et _) ?_;rintro r s3 ⟨rfl,rfl⟩;refine jR hK ?_;clear hK K;have ir:=ZB i et;refine wK fun K4 jm=>?_;have fu:∀(E:Env)(s3:AS)(x3:AV),E 15=.sl 1 W.length (W.map ed) .any->E 16=.v (.int .i64 W.length)->E 17=.v (.int .i64 i)->E 1=.v (.int .i64 l)->E 8=.v (.int .i64 (D (i+1):Nat))->E 5=x3->il 1 s1 s3 x3 (i+1) ((S.take (i+1)).map ed)->s1.le s3->K4 E s3:=by
    intro E s3 x3 f15 f16 f17 f1 f8 f5 fx Dx;refine jm _ _ ?_;clear jm K4;refine jD @f8 ?_;refine eX _ _<|jD (Ai @f17 (eK i oM)) ?_;refine⟨⟨i+1,x3,et,f15,f16,rfl,f1,rfl,f5,fx,Dx⟩,?_⟩;have m1:re (E1 5)=i:=by
     rw[g5];rcases hx with⟨rfl,rfl,_⟩|⟨t,e,rfl,_⟩<;>rfl
    have m2:re (E 5)=i+1:=by
     rw[f5];rcases fx with⟨rfl,h,_⟩|⟨t,e,rfl,_⟩
     ·omega
     ·rfl
    simp only[dY,Nc,↓reduceIte,m1,m2];omega
   clear jm;rcases hx with⟨rfl,lu,yS⟩|⟨t,e,rfl,ht,mg⟩
   ·refine wE fun K hK=>?_;simp only[↓DN,Qa,Qb,Qc,Qd,Qe,Qf,Qg,Qh,seval,TT,g5,eW,av];intro t ht;refine hK _ _ (fu _ _ (.sl 1 1 [.v (.int .i64 ((fE (D i):Nat):Int))] (.own t 0)) g15 g16 g17 g1 rfl rfl ?_ ?_)
    ·refine .inr ⟨t,0,?_,by simp[AS.eT],eC hle ht⟩;rw[ir,aH,yS];subst lu;rfl
    ·exact AS.eE hle (eC hle ht) 0
   ·refine wE fun K hK=>?_;simp only[↓DN,Qa,Qb,Qc,Qd,Qe,Qf,Qg,Qh,seval,TT,g5,ht,av];have LS:(S.take i).length=i:=(by rw[List.length_take];omega);refine⟨oM,oM,hK _ _ (fu _ _ (.sl 1 (i+1) ((S.take i).map ed++[.v (.int .i64 ((fE (D i):Nat):Int))]) (.own t (e+1))) g15 g16 g17 g1 rfl rfl ?_ ?_)⟩
    ·exact .inr ⟨t,e+1,by rw[ir,aH];rfl,by simp[AS.eT],mg⟩
    ·exact AS.eE hle mg (e+1)
  ·have fB:¬((i:Nat):Int)<(W.length:Int):=oM;refine jB (Ai @g16 (Ai @g17 (dF fB))) ?_;refine Jb fun K2 eH=>?_;simp only[dJ,dn,if_true];refine hK _ _ ?_;obtain rfl:i=k:=oM;refine jB @g5 ?_;refine jI ?_;rw[ad oM] at hx;refine⟨_,_,?_,hle,rfl,rfl⟩;have:=hx.dV;unfold ea;rwa [To]
theorem uw(leaf l i:Nat)(hl:Fit l)(hn:leaf<l)(hi:i<(dR leaf l).length)(s:AS):aI prog Γ 56 [.v (.int .i64 leaf),.v (.int .i64 l),.v (.int .i64 i)] s (.v (.int .i64 (fE (nodeAt leaf l i):Nat))):=by
 refine xH func56 ntmps56 results56 ?_;have Ka:=hl.le;have Cu:=kV hl hn;have oA:=fun s=>pP (Γ:=Γ) leaf l hl hn s;have JB:=fun(s:AS)=>zy (Γ:=Γ) (nodeAt leaf l i) l hl (rn hl hn hi).1 (rn hl hn hi).2.1 s;refine jA ?_;refine jB (fp leaf oM) ?_;refine wK fun K hK=>?_;have fu:∀(E:Env)(s3:AS),E 7=.v (.int .i64 (nodeAt leaf l i:Nat))->E 1=.v (.int .i64 l)->s3=s->K E s3:=by
  rintro E s3 f7 f1 rfl;refine hK _ _ ?_;clear hK K;generalize nodeAt leaf l i=D at *
  refine jS (Ai @f7 @f1) fun K hK=>?_;refine b6 (JB _) ?_;rintro r s4 ⟨rfl,rfl⟩;refine jR hK ?_;clear hK K;refine jA ?_;exact jJ
 clear hK;cases i with
 |zero=>
  refine jB (show(decide ((0:Int)<((0:Nat):Int)))=false from rfl) ?_;refine gW ?_;exact fu _ _ rfl rfl rfl
 |succ j=>
  have UU:(ew (dR leaf l)).length=(dR leaf l).length:=fh _;have hPg:(ew (dR leaf l))[j]? =some ((nodeAt leaf l (j+1):Nat):Int):=by
   simp[ew,nodeAt,bm,show j<(dR leaf l).length by omega]
  generalize ew (dR leaf l)=W at *
  have hgt:decide ((0:Int)<((j+1:Nat):Int))=true:=dT oM;have e1:gR .i64 ((j+1:Nat):Int) 1=(j:Int):=(by rw[zu oM oM];omega);have fB:((j:Nat):Int)<(W.length:Int):=oM;have h0:(0:Int)<=((j:Nat):Int):=oM;have lr:(aD 1 (aK j (W.map ed)))[0]? =some (AV.v (.int .i64 ((nodeAt leaf l (j+1):Nat):Int))):=by
   simp[aF,hPg,ed]
  refine jB @hgt ?_;refine jE<|jT fun K hK=>?_;refine b6 (oA _) ?_;rintro r s1 ⟨rfl,rfl⟩;refine jN (Ai @ea.eq_1 (Ai @e1 (Ai @fB (Ai @h0 @lr)))) ?_;exact hK _ _ (fu _ _ rfl rfl rfl)
end Go.Proofs.YtbiefppedlodiaaGreatDoor
namespace Go.AM
open Go
def Qr(l:List cH):List UInt8:=(l.map cH.text).flatten
def Tp(t:List cH):List UInt8:=be 1 (ee t)++Qr t
open Go Go.RowKit
variable{P:Program}{Γ:Nat->List AV}{G:Gh}{s:AS}{w:World}{N:Nat}
variable{Γ:Nat->List AV}{s:AS}
namespace Sha
def j9(a b:Nat):Nat:=(a+b)%4294967296
def rL(x n:Nat):Nat:=(x/2^n) ||| ((x*2^(32-n))%4294967296)
def Tq(x a b c:Nat):Nat:=(rL x a ^^^ rL x b) ^^^ rL x c
def IA(x a b c:Nat):Nat:=(rL x a ^^^ rL x b) ^^^ (x/2^c)
def NS(a b c d:Nat):Nat:=((a*256+b)*256+c)*256+d
def word(c:List UInt8)(p:List Nat)(i:Nat):Nat:=
  if i<16 then NS ((c.getD (4*i) 0).toNat) ((c.getD (4*i+1) 0).toNat) ((c.getD (4*i+2) 0).toNat) ((c.getD (4*i+3) 0).toNat)
  else j9 (j9 (j9 (IA (p.getD (i-2) 0) 17 19 10) (p.getD (i-7) 0)) (IA (p.getD (i-15) 0) 7 18 3)) (p.getD (i-16) 0)
def rE(c:List UInt8):Nat->List Nat
  |0=>[]
  |n+1=>rE c n++[word c (rE c n) n]
theorem gH(c:List UInt8)(n:Nat):(rE c n).length=n:=by
  induction n with
  |zero=>rfl
  |succ n ih=>simp[rE,ih]
def t1(e f g h k w:Nat):Nat:=j9 (j9 (j9 (j9 h (Tq e 6 11 25)) ((e &&& f) ^^^ ((4294967295-e) &&& g))) k) w
def t2(a b c:Nat):Nat:=j9 (Tq a 2 13 22) (((a &&& b) ^^^ (a &&& c)) ^^^ (b &&& c))
structure St where
  a:Nat
  b:Nat
  c:Nat
  d:Nat
  e:Nat
  f:Nat
  g:Nat
  h:Nat
def St.step(s:St)(k w:Nat):St:=
  ⟨j9 (t1 s.e s.f s.g s.h k w) (t2 s.a s.b s.c),s.a,s.b,s.c,j9 s.d (t1 s.e s.f s.g s.h k w),s.e,s.f,s.g⟩
def St.add(s t:St):St:=⟨j9 s.a t.a,j9 s.b t.b,j9 s.c t.c,j9 s.d t.d,j9 s.e t.e,j9 s.f t.f,j9 s.g t.g,j9 s.h t.h⟩
def St.list(s:St):List Nat:=[s.a,s.b,s.c,s.d,s.e,s.f,s.g,s.h]
structure St.ok(s:St):Prop where
  a:s.a<4294967296
  b:s.b<4294967296
  c:s.c<4294967296
  d:s.d<4294967296
  e:s.e<4294967296
  f:s.f<4294967296
  g:s.g<4294967296
  h:s.h<4294967296
def K:List Nat:=[
  0x428a2f98,0x71374491,0xb5c0fbcf,0xe9b5dba5,0x3956c25b,0x59f111f1,0x923f82a4,0xab1c5ed5,
  0xd807aa98,0x12835b01,0x243185be,0x550c7dc3,0x72be5d74,0x80deb1fe,0x9bdc06a7,0xc19bf174,
  0xe49b69c1,0xefbe4786,0x0fc19dc6,0x240ca1cc,0x2de92c6f,0x4a7484aa,0x5cb0a9dc,0x76f988da,
  0x983e5152,0xa831c66d,0xb00327c8,0xbf597fc7,0xc6e00bf3,0xd5a79147,0x06ca6351,0x14292967,
  0x27b70a85,0x2e1b2138,0x4d2c6dfc,0x53380d13,0x650a7354,0x766a0abb,0x81c2c92e,0x92722c85,
  0xa2bfe8a1,0xa81a664b,0xc24b8b70,0xc76c51a3,0xd192e819,0xd6990624,0xf40e3585,0x106aa070,
  0x19a4c116,0x1e376c08,0x2748774c,0x34b0bcb5,0x391c0cb3,0x4ed8aa4a,0x5b9cca4f,0x682e6ff3,
  0x748f82ee,0x78a5636f,0x84c87814,0x8cc70208,0x90befffa,0xa4506ceb,0xbef9a3f7,0xc67178f2]
def H0:St:=⟨0x6a09e667,0xbb67ae85,0x3c6ef372,0xa54ff53a,0x510e527f,0x9b05688c,0x1f83d9ab,0x5be0cd19⟩
def rounds(w:List Nat)(s:St):Nat->St
  |0=>s
  |n+1=>(rounds w s n).step (K.getD n 0) (w.getD n 0)
def mix(s:St)(c:List UInt8):St:=s.add (rounds (rE c 64) s 64)
def sZ(l:List UInt8)(i:Nat):List UInt8:=(l.drop (64*i)).take 64
def hash(l:List UInt8):Nat->St
  |0=>H0
  |n+1=>mix (hash l n) (sZ l n)
def m9(n:Nat):Nat:=(119-n%64)%64
def Ci(n:Nat):List UInt8:=[az (8*n/2^56),az (8*n/2^48),az (8*n/2^40),az (8*n/2^32),az (8*n/2^24),az (8*n/2^16),az (8*n/2^8),az (8*n)]
def pad(l:List UInt8):List UInt8:=l++(128::(ae (m9 l.length) 0++Ci l.length))
theorem xX(l:List UInt8):(pad l).length=l.length+9+m9 l.length:=by simp[pad,Ci];omega
theorem OJ(l:List UInt8):(pad l).length%64=0:=by rw[xX,m9];omega
def be(x:Nat):List UInt8:=[az (x/2^24),az (x/2^16),az (x/2^8),az x]
def St.bytes(s:St):List UInt8:=be s.a++be s.b++be s.c++be s.d++be s.e++be s.f++be s.g++be s.h
def sum(l:List UInt8):List UInt8:=(hash (pad l) ((pad l).length/64)).bytes
theorem im(l:List UInt8):(sum l).length=32:=rfl
theorem lZ(a b:Nat):j9 a b<4294967296:=Nat.mod_lt _ dM
theorem gB{x:Nat}(n:Nat)(h:x<4294967296):rL x n<4294967296:=
  Nat.or_lt_two_pow (n:=32) (bM (dc _ _) h) (Nat.mod_lt _ dM)
theorem Ws(a b c d:UInt8):NS a.toNat b.toNat c.toNat d.toNat<4294967296:=by
  have:=a.toNat_lt;have:=b.toNat_lt;have:=c.toNat_lt;have:=d.toNat_lt;simp only[NS];omega
theorem Wt(c:List UInt8)(p:List Nat)(i:Nat):word c p i<4294967296:=by
  unfold word;split
  · exact Ws _ _ _ _
  · exact lZ _ _
theorem Z4(c:List UInt8)(n:Nat):∀x∈rE c n,x<4294967296:=by
  induction n with
  |zero=>intro x hx;simp[rE] at hx
  |succ n ih=>
    intro x hx;simp only[rE,cu,cg] at hx;rcases hx with hx|rfl
    · exact ih x hx
    · exact Wt _ _ _
theorem sf(c:List UInt8)(n i:Nat):(rE c n).getD i 0<4294967296:=by
  rw[aO];cases h:(rE c n)[i]? with
  |none=>simp
  |some x=>exact Z4 c n x (List.mem_of_getElem? h)
theorem xcT:H0.ok:=by constructor<;>decide
theorem St.ok.step{s:St}(h:s.ok)(k w:Nat):(s.step k w).ok:=⟨lZ _ _,h.a,h.b,h.c,lZ _ _,h.e,h.f,h.g⟩
theorem St.ok.add(s t:St):(s.add t).ok:=⟨lZ _ _,lZ _ _,lZ _ _,lZ _ _,lZ _ _,lZ _ _,lZ _ _,lZ _ _⟩
theorem A4{w:List Nat}{s:St}(h:s.ok):∀n,(rounds w s n).ok
  |0=>h
  |n+1=>(A4 h n).step _ _
theorem Z5(s:St)(c:List UInt8):(mix s c).ok:=St.ok.add _ _
theorem OK(l:List UInt8):∀n,(hash l n).ok
  |0=>xcT
  |n+1=>Z5 _ _
end Sha
namespace Mac
def key(k:List UInt8):List UInt8:=if 64<k.length then Sha.sum k else k
def fill(k:List UInt8):List UInt8:=k++ae (64-k.length) 0
def turn(x:UInt8)(l:List UInt8):List UInt8:=l.map fun c=>c ^^^ x
def inner(k l:List UInt8):List UInt8:=Sha.sum (turn 54 (fill (key k))++l)
def tag(k l:List UInt8):List UInt8:=Sha.sum (turn 92 (fill (key k))++inner k l)
theorem Tr(k:List UInt8):(key k).length<=64:=by
  unfold key;split
  · rw[Sha.im];decide
  · omega
theorem vI(k:List UInt8)(h:k.length<=64):(fill k).length=64:=by simp[fill];omega
theorem sV(x:UInt8)(l:List UInt8):(turn x l).length=l.length:=by simp[turn]
theorem pb(k l:List UInt8):(tag k l).length=32:=Sha.im _
theorem GL(k l:List UInt8):(inner k l).length=32:=Sha.im _
def part(x:UInt8)(l:List UInt8)(i:Nat):List UInt8:=turn x (l.take i)++l.drop i
theorem Qs(x:UInt8)(l:List UInt8):part x l 0=l:=by simp[part,turn]
theorem Ts(x:UInt8)(l:List UInt8)(i:Nat)(h:l.length<=i):part x l i=turn x l:=by
  rw[part,ad h,List.drop_eq_nil_of_le h,List.append_nil]
theorem La(x:UInt8)(l:List UInt8)(i:Nat):(part x l i).length=l.length:=by simp[part,turn];omega
theorem Tt(x:UInt8)(l:List UInt8)(i:Nat)(h:i<l.length):aK i ((part x l i).map cU)=cU (l.getD i 0)::aK (i+1) ((part x l i).map cU):=by
  have hl:((part x l i).map cU).length=l.length:=(by rw[aj,La]);rw[List.drop_eq_getElem_cons oM];congr 1;rw[List.getElem_map];congr 1;simp only[part];rw[List.getElem_append_right (by simp[turn];omega)];have e:(turn x (l.take i)).length=i:=(by simp[turn];omega);simp only[e,Nat.sub_self,List.getElem_drop,Nat.add_zero];simp[aO,h]
theorem Tu(x:UInt8)(l:List UInt8)(i:Nat)(h:i<l.length):((part x l i).map cU).set i (cU (l.getD i 0 ^^^ x))=(part x l (i+1)).map cU:=by
  rw[<-List.map_set];congr 1;simp only[part];have e:(turn x (l.take i)).length=i:=(by simp[turn];omega);rw[List.set_append_right _ _ oM,e,Nat.sub_self,List.drop_eq_getElem_cons h,List.set_cons_zero,af h];simp only[turn,aH,List.map_cons,List.map_nil,List.append_assoc,List.cons_append,aP,aO,List.getElem?_eq_getElem h,Option.getD_some]
theorem Es(a b:UInt8):BX .u8 (a.toNat:Int) (b.toNat:Int)=((a ^^^ b).toNat:Int):=by
  rw[Mj (k:=.u8) rfl a.toNat b.toNat (by simpa[aJ] using a.toNat_lt) (by simpa[aJ] using b.toNat_lt),UInt8.toNat_xor]
theorem nf:∀(ds cs:List AV)(off:Nat),off+ds.length<=cs.length->eQ cs off ds=cs.take off++ds++cs.drop (off+ds.length)
  |[],cs,off,h=>by simp[eQ]
  |d::ds,cs,off,h=>by
    rw[eQ,nf ds (cs.set off d) (off+1) (by simp at h⊢;omega)];simp only[aZ] at h;have h1:(cs.set off d).take (off+1)=cs.take off++[d]:=by
      rw[af (by simp;omega),List.getElem_set_self,List.take_set_of_le (Nat.le_refl off)]
    have h2:(cs.set off d).drop (off+1+ds.length)=cs.drop (off+(ds.length+1)):=by
      rw[List.drop_set_of_lt oM];congr 1;omega
    rw[h1,h2,aZ];simp
theorem NT(k:List UInt8)(h:k.length<=64):eQ (ae 64 (cU 0)) 0 (k.map cU)=(fill k).map cU:=by
  rw[nf _ _ _ (by simpa using h)];simp only[List.take_zero,aP,Nat.zero_add,aj,fill,aH,List.map_replicate,List.drop_replicate]
end Mac
open Go
end Go.AM
namespace Go.AM
open Go
theorem D0(t:List cH)(i:Nat)(x:cH)(j:Nat):nd (t.set i x) j=if i=j∧i<t.length then x else nd t j:=by
  unfold nd;simp only[aO,List.getElem?_set];by_cases h:i=j
  · by_cases k:i<t.length
    · rw[if_pos h,if_pos k,if_pos ⟨h,k⟩];rfl
    · rw[if_pos h,if_neg k,if_neg (fun q=>k q.2)];subst h;rw[List.getElem?_eq_none oM]
  · rw[if_neg h,if_neg (fun q=>h q.1)]
theorem NA{leaf l:Nat}(hl:Fit l)(h:leaf<l):(dR leaf l).Nodup:=by
  obtain⟨m,hm,rfl⟩:=hl.pow;exact(by decide+kernel:∀m≤5,∀leaf<2^m,(dR leaf (2^m)).Nodup) m hm leaf h
theorem Et{t:List cH}{L:Nat}(hL:ee t=L)(i:Int):j0 t i↔0<=i∧i<(L:Int)∧(nd t (2*i.toNat)).kind=1:=by unfold j0;rw[hL]
theorem ru{t:List cH}{L:Nat}(hL:ee t=L)(i:Nat):j0 t (i:Int)↔i<L∧(nd t (2*i)).kind=1:=by
  rw[Et hL,aC];exact⟨fun h=>⟨oM,h.2.2⟩,fun h=>⟨oM,oM,h.2⟩⟩
theorem D1{t:List cH}{L:Nat}(hL:Fit L)(hlen:t.length=2*L-1):eJ t↔
    (∀i,i<2*L-1->(nd t i).right∧((nd t i).kind=0∨((nd t i).kind=1↔i%2=0))∧∀u∈(nd t i).nS,(lo i:Int)<=u∧u<=(hi i:Int)∧0<=u∧u<(L:Int)∧(nd t (2*u.toNat)).kind=1)∧
    (∀a b,a<b->b<L->(nd t (2*a)).kind=1->(nd t (2*b)).kind=1->(nd t (2*b)).name≠(nd t (2*a)).name)∧
    (L=1∨∃j,L/2<=j∧j<L∧(nd t (2*j)).kind=1):=by
  have hl:=NH hL hlen;have hb:=hL.le;have hh:kS t=L:=(by unfold kS;omega);have MV:∀i,i<2*L-1->pr (i:Int)=((lo i:Int),(hi i:Int)):=by
    intro i et;unfold pr;rw[if_pos oM,aC]
  have xgZ:0<mr (j0 t) (L/2) (L-L/2)↔∃j,L/2<=j∧j<L∧(nd t (2*j)).kind=1:=by
    rw[Ee];constructor
    · rintro⟨j,h1,h2⟩;have:=(ru hl _).1 h2;exact⟨L/2+j,oM,this.1,this.2⟩
    · rintro⟨j,h1,h2,h3⟩;refine⟨j-L/2,oM,?_⟩;rw[show L/2+(j-L/2)=j by omega];exact(ru hl _).2 ⟨h2,h3⟩
  unfold eJ;rw[hl,xgZ];constructor
  · rintro⟨_,h2,h3⟩;refine⟨fun i et=>?_,fun a b Bi hbL ha RH=>?_,h3⟩
    · obtain⟨⟨k1,k2,k3⟩,_⟩:=h2 i oM;refine⟨k1,k2,fun u hu=>?_⟩;obtain⟨q1,q2,q3⟩:=k3 u hu;rw[MV i et] at q1 q2;have:=(Et hl u).1 q3;exact⟨q1,q2,this.1,this.2.1,this.2.2⟩
    · intro e;have:=(h2 (2*a) oM).2 oM (by rw[show 2*a/2=a by omega];exact(ru hl a).2 ⟨oM,ha⟩) b oM oM;exact this ⟨(ru hl b).2 ⟨hbL,RH⟩,e⟩
  · rintro⟨h1,h2,h3⟩;refine⟨oM,fun i et=>⟨⟨?_,?_,?_⟩,?_⟩,h3⟩
    · exact(h1 i oM).1
    · exact(h1 i oM).2.1
    · intro u hu;obtain⟨q1,q2,q3,q4,q5⟩:=(h1 i oM).2.2 u hu;rw[MV i oM];exact⟨q1,q2,(Et hl u).2 ⟨q3,q4,q5⟩⟩
    · intro he hm j hj hij ⟨hmj,hn⟩;have h5:=(ru hl _).1 hm;have h6:=(ru hl _).1 hmj;rw[show 2*(i/2)=i by omega] at h5;refine h2 (i/2) j hij h6.1 (by rw[show 2*(i/2)=i by omega];exact h5.2) h6.2 ?_;rw[show 2*(i/2)=i by omega];exact hn
theorem P6{l:List Int}(h:l.Pairwise (· < ·))(k:∀x∈l,0<=x∧x<32):oL l:=by
  intro i hi;refine yQ hi (k _ (bg hi)).1 (k _ (bg hi)).2 (fun h0=>?_);exact List.pairwise_iff_getElem.1 h (i-1) i oM hi oM
open Go Go.RowKit
variable{P:Program}{Γ:Nat->List AV}{s:AS}
def zN:List AV:=[.v (.int .i64 0),.v (.slice none 0 0),.v (.int .u64 0),.v (.slice none 0 0),.v (.slice none 0 0)]
def pN:cH×AV:=(cH.nr,eW)
theorem Qt{R a b:List AV}{off:Nat}(hl:a.length=b.length)(h:off+a.length<=R.length)(w:kj.dV a b):kj.dV (eQ R off a) (eQ R off b):=by
  rw[Mac.nf _ _ _ h,Mac.nf _ _ _ oM,hl];exact kj.dV.append (kj.dV.append (.refl _) w) (.refl _)
theorem AS.Qu{Γ:Nat->List AV}{s:AS}{O:Nat}{a b:List AV}(w:kj.dV a b):AS.tells Γ (s.set O a) (s.set O b):=by
  have:=AS.oK (Γ:=Γ) (AS.bG s O a) w;rwa [AS.set_set] at this
end Go.AM
namespace Go.Proofs.YtbiefppedlodiaaGreatDoor
open Go Go.AM Go.Proofs Tryz
variable{Γ:Nat->List AV}
theorem Tv{α:Type}{a b:List α}{i:Nat}(ha:i<a.length)(hb:i<b.length)(h:a.take i=b.take i)(he:a[i]=b[i]):a.take (i+1)=b.take (i+1):=by
 rw[af ha,af hb,h,he]
theorem NU{α:Type}{a b:List α}{i:Nat}(hl:a.length=b.length)(ha:¬i<a.length)(h:a.take i=b.take i):a=b:=by
 rwa [ad oM,ad oM] at h
theorem Ik(a b:List cH)(ha:iD a)(s:AS):aI prog Γ 13 [eA a,eA b] s (.v (.bool (decide (a=b)))):=by
 refine xH func13 ntmps13 results13 ?_;have Tw:=fun i(h:i<a.length)=>nv (c:=cH.cells) (k:=5) (fun _=>rfl) h;have Tx:=fun i(h:i<b.length)=>nv (c:=cH.cells) (k:=5) (fun _=>rfl) h;have hal:=ha.1;unfold eA;generalize eb cH.cells a=XA at *
 generalize eb cH.cells b=XB at *
 refine yd fun K hK=>?_;by_cases hl:a.length=b.length
 ·refine jB (ug hl) ?_;refine gW ?_;refine hK _ _<|Jc fun K hK=>?_;refine dU (fun E s2=>∃i:Nat,i<=a.length∧E 5=.v (.int .i64 i)∧E 0=.sl 5 a.length XA .any∧E 1=.sl 5 b.length XB .any∧a.take i=b.take i∧s2=s)
   (fun E _=>match E 5 with |.v (.int _ i)=>a.length-i.toNat|_=>0) ?_ ?_
  ·exact⟨0,aA _,rfl,rfl,rfl,sM,rfl⟩
  ·rintro E1 s2 ⟨i,hi,g5,g0,g1,fG,rfl⟩ -
   refine wK fun K2 eH=>?_;by_cases et:i<a.length
   ·refine jB (Ai @g5 (Ai @g0 (Ai @dB (dT et)))) ?_;refine ue ?_;refine eH _ _<|nF fun K3 eX=>?_;have kR:i<b.length:=oM;have Lb:=Tw i et;have zC:=Tx i kR;have gC:(0:Int)<=(i:Int):=oM;have Eu:a[i]=b[i]->a.take (i+1)=b.take (i+1):=Tv et kR fG;have uS:a[i]≠b[i]->decide (a=b)=false:=fun h=>dF fun q=>h (by subst q;rfl);have BO:=fun s=>uz (Γ:=Γ) a[i] b[i] (ha.2 _ (bg et)).1 s;generalize a[i]=y1 at *
    generalize b[i]=y2 at *
    obtain⟨P,hP⟩:∃P,P=decide (y1=y2):=⟨_,rfl⟩;rw[<-hP] at BO;obtain⟨nk,nm,ny,pH,nu⟩:=y1;obtain⟨mk,mm,my,mpa,mu⟩:=y2;unfold cH.cells at Lb zC BO;simp only at Lb zC BO;unfold ea at Lb zC BO;refine eB T.mixed [8] kM ?_;intro K hK;refine jN (Ai @g5 (Ai @g0 (Ai @g1 (Ai @dB (Ai @et (Ai @kR (Ai @gC (Ai @Lb @zC)))))))) ?_;refine b6 (BO _) ?_;rintro r s3 ⟨rfl,rfl⟩;cases P with
    |true=>
     refine jR hK ?_;clear hK K;refine gW ?_;simp only[dn,dJ,if_true,if_false];refine eX _ _<|jD (Ai @g5 (eK i oM)) ?_;refine⟨⟨i+1,oM,rfl,g0,g1,Eu (of_decide_eq_true hP.symm),rfl⟩,?_⟩;simp only[g5,dY,↓reduceIte];omega
    |false=>
     refine jR hK ?_;clear hK K;refine mS ?_;rw[uS (of_decide_eq_false hP.symm)];exact jW ⟨rfl,rfl⟩
   ·refine jB (Ai @g5 (Ai @g0 (Ai @dB (dF et)))) ?_;refine sI ?_;simp only[dJ,dn,if_true];refine hK _ _ ?_;have Bi:a=b:=NU hl et fG;refine wq ?_;rw[dT Bi];exact jW ⟨rfl,rfl⟩
 ·refine jB (Bz hl) ?_;refine mS ?_;rw[dF (fun q=>hl (by rw[q]))];exact jW ⟨rfl,rfl⟩
abbrev wV(x:Nat):AV:=.v (.int .u32 (x:Int))
theorem zE(a:Nat)(h:a<32):Jq .i64 (a:Int)= -(a:Int):=by
 rw[Jq,IntWalk.i64_in _ oM];omega
theorem Qv(a:Nat)(h0:0<a)(h:a<32):rG .u64 (gq .u64 (-(a:Int))) 31=((32-a:Nat):Int):=by
 have e:gq .u64 (-(a:Int))=((18446744073709551616-a:Nat):Int):=by
  rw[gq,pM rfl];simp only[aJ];omega
 rw[e,show(31:Int)=((31:Nat):Int) from rfl,xu rfl _ _ (by simp only[aJ];omega) dM];congr 1;have :(18446744073709551616-a) &&& 31=(18446744073709551616-a)%2^5:=Nat.and_two_pow_sub_one_eq_mod _ 5;rw[this];omega
theorem iU(a:Nat):¬((a:Nat):Int)<0:=oM
theorem Wu(a:Nat)(h0:0<a)(h:a<32):gR .u64 32 ((32-a:Nat):Int)=((a:Nat):Int):=by
 have:=Gd (k:=.u64) rfl 32 (32-a) oM dM;rw[show(32:Int)=((32:Nat):Int) from rfl,this];congr 1;omega
theorem Wv(x a:Nat)(hx:x<4294967296)(h0:0<a)(h:a<32):L5 .u32 (oo .u32 (x:Int) ((32-a:Nat):Int)) (kE .u32 (x:Int) ((a:Nat):Int))=((Sha.rL x a:Nat):Int):=by
 rw[xv rfl,nq];rw[Ge rfl _ _ (Nat.mod_lt _ dM) (by simp only[aJ];exact bM (dc _ _) hx)];rw[Sha.rL,Nat.or_comm];simp only[aJ];rw[cQ oM,cQ oM]
theorem uN(a b:Nat)(ha:a<4294967296)(hb:b<4294967296):BX .u32 (a:Int) (b:Int)=((a ^^^ b:Nat):Int):=Mj rfl a b ha hb
theorem FQ(a b:Nat)(ha:a<4294967296)(hb:b<4294967296):rG .u32 (a:Int) (b:Int)=((a &&& b:Nat):Int):=xu rfl a b ha hb
theorem wor(a b:Nat)(ha:a<4294967296)(hb:b<4294967296):L5 .u32 (a:Int) (b:Int)=((a ||| b:Nat):Int):=Ge rfl a b ha hb
theorem yX(a b:Nat):iY .u32 (a:Int) (b:Int)=((Sha.j9 a b:Nat):Int):=Ah rfl a b
theorem xcV(a:Nat)(ha:a<4294967296):Q9 .u32 (a:Int)=((4294967295-a:Nat):Int):=YS rfl a ha
theorem AG(a c:Nat)(hc:c<32):kE .u32 (a:Int) ((c:Nat):Int)=((a/2^c:Nat):Int):=by
 rw[nq];simp only[aJ];rw[cQ oM]
theorem Tz(a c:Nat)(hc:c<32):oo .u32 (a:Int) ((c:Nat):Int)=(((a*2^c)%4294967296:Nat):Int):=by
 rw[xv rfl];simp only[aJ];rw[cQ oM]
theorem ry(x a:Nat)(hx:x<4294967296)(h0:0<a)(h:a<32)(s:AS):
  aI prog Γ 250 [wV x,.v (.int .i64 (-(a:Int)))] s (wV (Sha.rL x a)):=by
 refine xH func250 ntmps250 results250 ?_;refine jA ?_;refine jB (Qv a h0 h) ?_;refine jB (Ai @iU (Ai (Wu a h0 h) (Wv x a hx h0 h))) ?_;refine jI ?_;exact⟨_,s,AV.dV.refl _,AS.le.refl s,rfl,rfl⟩
theorem zF(x a b c:Nat)(hx:x<4294967296)(ha0:0<a)(ha:a<32)(hb0:0<b)(hb:b<32)(F7:0<c)(hc:c<32)(s:AS):
  aI prog Γ 234 [wV x,.v (.int .i64 (a:Int)),.v (.int .i64 (b:Int)),.v (.int .i64 (c:Int))] s (wV (Sha.Tq x a b c)):=by
 refine xH func234 ntmps234 results234 ?_;refine jA ?_;refine jS (zE a ha) fun K hK=>?_;refine b6 (ry x a hx ha0 ha _) ?_;rintro r s1 ⟨rfl,rfl⟩;refine jN (zE b hb) ?_;refine b6 (ry x b hx hb0 hb _) ?_;rintro r s2 ⟨rfl,rfl⟩;refine jN (Ai (zE c hc) (uN _ _ (Sha.gB a hx) (Sha.gB b hx))) ?_;refine b6 (ry x c hx F7 hc _) ?_;rintro r s3 ⟨rfl,rfl⟩;refine jV (uN _ _ (cf (n:=32) (Sha.gB a hx) (Sha.gB b hx)) (Sha.gB c hx)) hK ?_;exact jJ
theorem xf(x a b c:Nat)(hx:x<4294967296)(ha0:0<a)(ha:a<32)(hb0:0<b)(hb:b<32)(F7:0<c)(hc:c<32)(s:AS):
  aI prog Γ 249 [wV x,.v (.int .i64 (a:Int)),.v (.int .i64 (b:Int)),.v (.int .i64 (c:Int))] s (wV (Sha.IA x a b c)):=by
 refine xH func249 ntmps249 results249 ?_;refine jA ?_;refine eB T.mixed [3,7] kM ?_;intro K hK;refine jN (zE a ha) ?_;refine b6 (ry x a hx ha0 ha _) ?_;rintro r s1 ⟨rfl,rfl⟩;refine jN (zE b hb) ?_;refine b6 (ry x b hx hb0 hb _) ?_;rintro r s2 ⟨rfl,rfl⟩;refine jV (Ai (uN _ _ (Sha.gB a hx) (Sha.gB b hx)) (Ai @iU (Ai (AG x c hc) (uN _ _ (cf (n:=32) (Sha.gB a hx) (Sha.gB b hx)) (bM (dc x (2^c)) hx))))) hK ?_;exact jJ
theorem Qw(a:Nat)(h:a<32):gR .i64 32 ((a:Nat):Int)=((32-a:Nat):Int):=by
 rw[fD oM];omega
theorem Qx(x a:Nat)(hx:x<4294967296)(h0:0<a)(h:a<32):L5 .u32 (kE .u32 (x:Int) ((a:Nat):Int)) (oo .u32 (x:Int) ((32-a:Nat):Int))=((Sha.rL x a:Nat):Int):=by
 rw[Tz x (32-a) oM,AG x a h,wor _ _ (bM (dc _ _) hx) (Nat.mod_lt _ dM),Sha.rL]
theorem iV(x a:Nat)(hx:x<4294967296)(h0:0<a)(h:a<32)(s:AS):
  aI prog Γ 210 [wV x,.v (.int .i64 (a:Int))] s (wV (Sha.rL x a)):=by
 refine xH func210 ntmps210 results210 ?_;refine jA ?_;refine eB T.mixed [] kM ?_;intro K hK;refine jV (Ai @iU (Ai (Qw a h) (Qx x a hx h0 h))) hK ?_;refine jI ?_;exact⟨_,s,AV.dV.refl _,AS.le.refl s,rfl,rfl⟩
theorem NV(s:AS):
  aI prog Γ 208 [] s (.sl 1 64 (Sha.K.map wV) .no):=by
 refine xH func208 ntmps208 results208 ?_;refine Zi ?_;refine jI ?_;exact⟨_,s,AV.U6 rfl,AS.le.refl s,rfl,rfl⟩
end Go.Proofs.YtbiefppedlodiaaGreatDoor
