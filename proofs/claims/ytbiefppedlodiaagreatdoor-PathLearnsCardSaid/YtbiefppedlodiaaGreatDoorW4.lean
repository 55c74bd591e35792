/- Contracts of functions, each walked once; each theorem states its conditions. -/
import Derived.Test.YtbiefppedlodiaaGreatDoorAMp6
import Derived.Test.YtbiefppedlodiaaGreatDoorW1
import Derived.Test.YtbiefppedlodiaaGreatDoorW3
import Derived.Test.YtbiefppedlodiaaGreatDoorW2
import Derived.Test.YtbiefppedlodiaaGreatDoorAMp5
set_option linter.unusedSimpArgs false
set_option linter.unusedVariables false
open Nat renaming reduceLT → Na, reduceLeDiff → Nb, reduceEqDiff → Nc, reduceAdd → Nk, reduceMul → Nf, reducePow → Ng, reduceSub → Nh, reduceBEq → Nz
open Int renaming reduceLT → Za, reduceLE → Zb, reduceToNat → Zc
open And renaming intro → Ai
open Go.AM renaming ashift → Qa, aconv → Qb, aindexAddr → Qc, aindex → Qd, aslice → Qe, abuiltin → Qf, awp_reg_seq → wS, awp_reg_end → wE, awp_seq_k → wK, awp_cond_k → wC
open Go.AM.AV renaming cells → Qg, one → Qh
set_option maxRecDepth 100000
set_option maxHeartbeats 8000000
namespace Go.Proofs.YtbiefppedlodiaaGreatDoor
open Go Go.AM Go.Proofs Tryz
variable{Γ:Nat→List AV}
theorem kM(t:List ah)(ht:t.length≤2^61)(s:AS):aj prog Γ 20 [aW t] s (fun r s'=>r=.v (.int .i64 (aI t))∧s'=s):=by
 refine aa func20 rfl ntmps20 results20 (by simp) ?_;unfold aW;generalize aK ah.cells t=X at *
 refine jA ?_;refine wK fun K hK=>?_;refine jA ?_;refine ag ?_;refine aD (fun E s2=>∃j:Nat,j≤6∧(∀k,k<j→t.length≠2*2^k-1)∧E 3=.v (.int .i64 ((2^j:Nat):Int))∧E 0=.sl 5 t.length X .any∧s2=s)
  (fun E _=>match E 3 with |.v (.int _ i)=>100-i.toNat|_=>0) ?_ ?_
 ·exact⟨0,by omega,fun k h=>absurd h (Nat.not_lt_zero _),rfl,rfl,rfl⟩
 ·rintro E1 s2 ⟨j,hj,bS,g3,g0,rfl⟩ -
  refine wK fun K2 aU=>?_;by_cases kg:j≤5
  ·have hp:=mG kg;have e1:ia .i64 2 ((2^j:Nat):Int)=((2*2^j:Nat):Int):=bZ _ (by omega);have e2:dr .i64 ((2*2^j:Nat):Int) 1=((2*2^j-1:Nat):Int):=(by rw[bO (by omega)];omega);have e3:ia .i64 ((2^j:Nat):Int) 2=((2^(j+1):Nat):Int):=(by rw[dJ (by omega),Nat.pow_succ];omega);have h1:decide (((2^j:Nat):Int)≤32)=true:=decide_eq_true (by omega);generalize hP:2^j=P at *
   refine jB (Ai @g3 @h1) ?_;refine jE ?_;refine ab ?_;refine aU _ _ ?_;clear aU K2;refine wK fun K3 bq=>?_;refine ag ?_;by_cases he:t.length=2*P-1
   ·refine jB (Ai @g0 (Ai @g3 (Ai @e1 (Ai @e2 (YB he))))) ?_;refine jE ?_;refine jB @g3 ?_;refine jI ?_;rw[Hc (by rw[←hP];exact PF kg) he];exact jW ⟨rfl,rfl⟩
   ·refine jB (Ai @g0 (Ai @g3 (Ai @e1 (Ai @e2 (xci he))))) ?_;refine jF ?_;refine ab ?_;simp only[aq,aA,if_true,if_false];refine bq _ _ ?_;clear bq K3;refine jD (Ai @g3 @e3) ?_;refine⟨⟨j+1,by omega,?_,rfl,g0,rfl⟩,?_⟩
    ·intro k hk;by_cases e:k=j
     ·rw[e,hP];exact he
     ·exact bS k (by omega)
    ·have :P<2^(j+1):=(by rw[Nat.pow_succ,hP];omega);simp only[g3,aB,↓reduceIte];omega
  ·obtain rfl:j=6:=(by omega);have h1:decide (((2^6:Nat):Int)≤32)=false:=(by decide);refine jB (Ai @g3 @h1) ?_;refine jF ?_;refine aC ?_;simp only[aA,aq,if_true];refine hK _ _ ?_;clear hK aU K2 K;refine jA ?_;refine jI ?_;rw[Mh (t:=t) (fun n hn=>by obtain⟨m,hm,rfl⟩:=hn.pow;exact bS m (by omega))];exact jW ⟨rfl,rfl⟩
theorem gO(t:List ah)(ht:t.length≤2^61)(i:Int)(s:AS):aj prog Γ 21 [aW t,.v (.int .i64 i)] s (fun r s'=>r=.v (.bool (decide (cB t i)))∧s'=s):=by
 refine aa func21 rfl ntmps21 results21 (by simp) ?_;have cT:=fun i(h:i<t.length)=>dh (t:=t) h;unfold aW;generalize aK ah.cells t=X at *
 have vz:¬cB t i→decide (cB t i)=false:=fun h=>decide_eq_false h;refine jA ?_;by_cases h0:0≤i
 ·obtain⟨n,rfl⟩:=Int.eq_ofNat_of_zero_le h0;by_cases h1:n<t.length
  ·have e1:=bZ n (by omega);by_cases h2:2*n<t.length
   ·have iL:=cT (2*n) h2;have hk:decide (cB t (n:Int))=((nd t (2*n)).kind==1):=by
     rw[Bool.eq_iff_iff,decide_eq_true_iff,beq_iff_eq];unfold cB;rw[Int.toNat_natCast];exact⟨fun k=>k.2.2,fun k=>⟨h0,by omega,k⟩⟩
    generalize nd t (2*n)=N at *
    obtain⟨k,nm,y,pa,u⟩:=N;unfold ah.cells at iL;have cA:(0:Int)≤((2*n:Nat):Int):=(by omega);refine jB (Ai (decide_eq_true h0) (Ai @au (Ai (decide_eq_true h1) (Ai (decide_eq_true h2) (Ai @e1 (Ai @h2 (Ai @cA @iL))))))) ?_;refine jI ?_;rw[hk];exact jW ⟨rfl,rfl⟩
   ·refine jB (Ai (decide_eq_true h0) (Ai @au (Ai (decide_eq_true h1) (Ai (decide_eq_false h2) @e1)))) ?_;refine jI ?_;rw[vz (fun k=>by have:=k.2.1;omega)];exact jW ⟨rfl,rfl⟩
  ·refine jB (Ai (decide_eq_true h0) (Ai @au (decide_eq_false h1))) ?_;refine jI ?_;rw[vz (fun k=>by have:=k.2.1;omega)];exact jW ⟨rfl,rfl⟩
 ·refine jB (decide_eq_false h0) ?_;refine jI ?_;rw[vz (fun k=>h0 k.1)];exact jW ⟨rfl,rfl⟩
theorem Zv{a b:List UInt8}(h:a=b):(a==b)=true:=by simpa using h
theorem Zw{a b:List UInt8}(h:a≠b):(a==b)=false:=by simpa using h
theorem yQ(t:List ah)(ht:t.length≤2^61)(a k:Nat)(hak:a+k<2^61)(s:AS):aj prog Γ 66 [aW t,.v (.int .i64 a),.v (.int .i64 (((a+k:Nat):Int)-1))] s (fun r s'=>r=.v (.int .i64 (ga (cB t) a k))∧s'=s):=by
 refine aa func66 rfl ntmps66 results66 (by simp) ?_;have hm:=fun i s=>gO (Γ:=Γ) t ht i s;unfold aW at hm⊢;generalize aK ah.cells t=X at *
 refine jA ?_;refine jA ?_;refine wK fun K hK=>?_;refine jA ?_;refine ag ?_;refine aD (fun E s2=>∃i:Nat,i≤k∧E 8=.v (.int .i64 ((a+i:Nat):Int))∧E 7=.v (.int .i64 (ga (cB t) a i))∧E 0=.sl 5 t.length X .any∧E 2=.v (.int .i64 (((a+k:Nat):Int)-1))∧s2=s)
  (fun E _=>match E 8 with |.v (.int _ i)=>a+k-i.toNat|_=>0) ?_ ?_
 ·exact⟨0,Nat.zero_le _,rfl,rfl,rfl,rfl,rfl⟩
 ·rintro E1 s2 ⟨i,hi,g8,g7,g0,g2,rfl⟩ -
  refine wK fun K2 aU=>?_;by_cases aY:i<k
  ·have h1:decide (((a+i:Nat):Int)≤((a+k:Nat):Int)-1)=true:=decide_eq_true (by omega);refine jB (Ai @g8 (Ai @g2 @h1)) ?_;refine jE ?_;refine ab ?_;refine aU _ _ ?_;clear aU K2;refine wK fun K3 bq=>?_;refine ag ?_;have bX:∀(E:Env),E 8=.v (.int .i64 ((a+i:Nat):Int))→E 7=.v (.int .i64 (ga (cB t) a (i+1)))→E 0=.sl 5 t.length X .any→E 2=.v (.int .i64 (((a+k:Nat):Int)-1))→K3 E s2:=by
    intro E f8 f7 f0 f2;refine bq _ _ ?_;clear bq K3;refine jD (Ai @f8 (bd (a+i) (by omega))) ?_;refine⟨⟨i+1,aY,rfl,f7,f0,f2,rfl⟩,?_⟩;simp only[g8,aB,↓reduceIte];omega
   clear bq;refine jS (Ai @g0 @g8) fun K hK=>?_;refine ad (hm _ _) ?_;rintro r s3 ⟨rfl,rfl⟩;have hc:=CV (cB t) a i;by_cases hp:cB t ((a+i:Nat):Int)
   ·rw[decide_eq_true hp];refine jR hK ?_;clear hK K;refine jE ?_;refine jD (Ai @g7 (bd (ga (cB t) a i) (by omega))) ?_;refine bX _ g8 ?_ g0 g2;have :ga (cB t) a (i+1)=ga (cB t) a i+1:=(by simp only[ga];rw[if_pos hp]);rw[this];simp only[aB,Nc,↓reduceIte]
   ·rw[decide_eq_false hp];refine jR hK ?_;clear hK K;refine jF ?_;refine ab ?_;refine bX _ g8 ?_ g0 g2;have :ga (cB t) a (i+1)=ga (cB t) a i:=(by simp only[ga];rw[if_neg hp];omega);rw[this];simp only[aB,g7,Nc,↓reduceIte]
  ·have h1:decide (((a+i:Nat):Int)≤((a+k:Nat):Int)-1)=false:=decide_eq_false (by omega);refine jB (Ai @g8 (Ai @g2 @h1)) ?_;refine jF ?_;refine aC ?_;simp only[aA,aq,if_true];refine hK _ _ ?_;clear hK aU K2 K;obtain rfl:i=k:=(by omega);refine jB @g7 ?_;exact jJ
theorem yR(t:List ah)(ht:t.length≤2^61)(name:List UInt8)(s:AS):aj prog Γ 64 [aW t,.v (.string ⟨name.toArray⟩)] s (fun r s'=>r=.v (.int .i64 (sf t name))∧s'=s):=by
 refine aa func64 rfl ntmps64 results64 (by simp) ?_;have hm:=fun i s=>gO (Γ:=Γ) t ht i s;have cT:=fun i(h:i<t.length)=>dh (t:=t) h;obtain⟨Q,hQ⟩:∃Q:Nat→Bool,Q=fun(j:Nat)=>decide (cB t (j:Int)∧(nd t (2*j)).name=name):=⟨_,rfl⟩;have dV:sf t name=cd Q (ev t-0) 0:=(by rw[hQ];rfl);unfold aW at hm⊢;generalize aK ah.cells t=X at *
 refine jA ?_;refine wK fun K hK=>?_;refine jA ?_;refine ag ?_;refine aD (fun E s2=>∃i:Nat,i≤2^61∧cd Q (ev t-i) i=cd Q (ev t-0) 0∧E 5=.v (.int .i64 i)∧E 0=.sl 5 t.length X .any∧E 1=.v (.string ⟨name.toArray⟩)∧s2=s)
  (fun E _=>match E 5 with |.v (.int _ i)=>ev t-i.toNat|_=>0) ?_ ?_
 ·exact⟨0,by omega,rfl,rfl,rfl,rfl,rfl⟩
 ·rintro E1 s2 ⟨i,hi,hf,g7,g0,g1,rfl⟩ -
  refine wK fun K2 aU=>?_;by_cases aY:i<ev t
  ·have fO:2*i<t.length:=yI.1 aY;refine jB (Ai @g7 (Ai @g0 (Ai (bZ i (by omega)) (Ai @au (decide_eq_true fO))))) ?_;refine jE ?_;refine ab ?_;refine aU _ _ ?_;clear aU K2;refine wK fun K3 bq=>?_;refine ag ?_;obtain⟨k,hk⟩:∃k,ev t-i=k+1:=⟨ev t-i-1,by omega⟩;have tF:ev t-(i+1)=k:=(by omega);rw[hk] at hf;have zD:Q i=decide (cB t i∧(nd t (2*i)).name=name):=(by rw[hQ]);have bX:∀(E:Env),Q i=false→E 5=.v (.int .i64 i)→E 0=.sl 5 t.length X .any→E 1=.v (.string ⟨name.toArray⟩)→K3 E s2:=by
    intro E hq f7 f0 f1;refine bq _ _ ?_;clear bq K3;refine jD (Ai @f7 (bd i (by omega))) ?_;refine⟨⟨i+1,by omega,by rw[tF,←hf,kt hq],rfl,f0,f1,rfl⟩,?_⟩;simp only[g7,aB,↓reduceIte];omega
   clear bq;have iL:=cT (2*i) fO;generalize nd t (2*i)=N at *
   obtain⟨nk,nm,ny,ll,nu⟩:=N;unfold ah.cells at iL;simp only at zD;have cA:(0:Int)≤((2*i:Nat):Int):=(by omega);refine jS (Ai @g0 @g7) fun K hK=>?_;refine ad (hm _ _) ?_;rintro r s3 ⟨rfl,rfl⟩;by_cases hp:cB t (i:Int)
   ·rw[decide_eq_true hp];by_cases hn:nm=name
    ·rw[decide_eq_true ⟨hp,hn⟩] at zD;refine jV (Ai @g0 (Ai @g7 (Ai @g1 (Ai (bZ i (by omega)) (Ai @au (Ai @fO (Ai @cA (Ai @iL (Zv hn))))))))) hK ?_;clear hK K;refine jE ?_;refine jB @g7 ?_;refine jI ?_;rw[dV,←hf,ku zD];exact jW ⟨rfl,rfl⟩
    ·rw[decide_eq_false (fun q=>hn q.2)] at zD;refine jV (Ai @g0 (Ai @g7 (Ai @g1 (Ai (bZ i (by omega)) (Ai @au (Ai @fO (Ai @cA (Ai @iL (Zw hn))))))))) hK ?_;clear hK K;refine jF ?_;refine ab ?_;exact bX _ zD g7 g0 g1
   ·rw[decide_eq_false hp];rw[decide_eq_false (fun q=>hp q.1)] at zD;refine jR hK ?_;clear hK K;refine jF ?_;refine ab ?_;exact bX _ zD g7 g0 g1
  ·have fO:¬2*i<t.length:=fun h=>aY (yI.2 h);refine jB (Ai @g7 (Ai @g0 (Ai (bZ i (by omega)) (Ai @au (decide_eq_false fO))))) ?_;refine jF ?_;refine aC ?_;simp only[aA,aq,if_true];refine hK _ _ ?_;clear hK aU K2 K;rw[show ev t-i=0 by omega] at hf;refine jA ?_;refine jI ?_;rw[dV,←hf];exact jW ⟨rfl,rfl⟩
theorem Fk{t:List ah}:bf t↔aI t≠0∧(∀i,i<t.length→tV t i)∧(aI t=1∨0<ga (cB t) (aI t/2) (aI t-aI t/2)):=by
 unfold bf;constructor
 ·rintro⟨a,b,c⟩;exact⟨a,(Ff a).2 b,c.imp id fun q=>by rw[se (yG a)];exact q⟩
 ·rintro⟨a,b,c⟩;exact⟨a,(Ff a).1 b,c.imp id fun q=>by rw[←se (yG a)];exact q⟩
theorem nw(t:List ah)(ht:eI t)(s:AS):aj prog Γ 16 [aW t] s (fun r s'=>r=.v (.bool (decide (bf t)))∧s'=s):=by
 refine aa func16 rfl ntmps16 results16 (by simp) ?_;have kq:=ht.1;have qL:=fun s=>kM (Γ:=Γ) t kq s;have Px:=fun i s=>gO (Γ:=Γ) t kq i s;have B3:=fun name s=>yR (Γ:=Γ) t kq name s;have DE:=fun a k h s=>yQ (Γ:=Γ) t kq a k h s;have hrn:=fun i s=>vk (Γ:=Γ) (nd t i) (ht.nd i).1 s;have hul:=fun i=>(ht.nd i).1;have cT:=fun i(h:i<t.length)=>dh (t:=t) h;have YD:=CG t;have Mt:aI t≠0→t.length=2*aI t-1:=fun h=>(bG.resolve_left h).2;have PT:aI t=0→decide (bf t)=false:=fun h=>decide_eq_false fun k=>k.1 h;have PU:∀i,i<t.length→¬tV t i→decide (bf t)=false:=fun i h1 h2=>decide_eq_false fun k=>h2 ((Fk.1 k).2.1 i h1);have qG:aI t≠0→(∀i,i<t.length→tV t i)→decide (bf t)=(((aI t:Int)==1)||decide ((0:Int)<(ga (cB t) (aI t/2) (aI t-aI t/2):Int))):=by
  intro h1 h2;rw[Bool.eq_iff_iff,decide_eq_true_iff,Bool.or_eq_true,beq_iff_eq,decide_eq_true_iff,Fk];constructor
  ·rintro⟨_,_,h3⟩;exact h3.imp (fun q=>by omega) (fun q=>by omega)
  ·intro h3;exact⟨h1,h2,h3.imp (fun q=>by omega) (fun q=>by omega)⟩
 unfold aW at *
 generalize aK ah.cells t=X at *
 generalize decide (bf t)=PR at *
 refine jA ?_;refine jK (qL _) ?_;rintro s1 rfl;refine wK fun K hK=>?_;by_cases hz:aI t=0
 ·refine jB (OZ hz) ?_;refine jE ?_;refine jA ?_;refine jI ?_;rw[PT hz];exact jW ⟨rfl,rfl⟩
 ·refine jB (Ic hz) ?_;refine jF ?_;refine ab ?_;refine hK _ _ ?_;clear hK K;have hlen:=Mt hz;refine wK fun K hK=>?_;refine jA ?_;refine ag ?_;refine aD (fun E s2=>∃i:Nat,i≤t.length∧(∀j,j<i→tV t j)∧E 4=.v (.int .i64 i)∧E 3=.v (.int .i64 (aI t))∧E 0=.sl 5 t.length X .any∧s2=s1)
   (fun E _=>match E 4 with |.v (.int _ i)=>t.length-i.toNat|_=>0) ?_ ?_
  ·exact⟨0,Nat.zero_le _,fun j h=>absurd h (Nat.not_lt_zero _),rfl,rfl,rfl,rfl⟩
  ·rintro E1 s2 ⟨i,hi,bS,g4,g3,g0,rfl⟩ -
   refine wK fun K2 aU=>?_;by_cases aY:i<t.length
   ·refine jB (Ai @g4 (Ai @g0 (Ai @au (decide_eq_true aY)))) ?_;refine jE ?_;refine ab ?_;refine aU _ _ ?_;clear aU K2;refine wK fun K3 bq=>?_;refine ag ?_;have yS:=PU i aY;have eY:tV t i↔(nd t i).right∧((nd t i).kind=0∨((nd t i).kind=1↔i%2=0))∧((nd t i).kind=1→sf t (nd t i).name=((i/2:Nat):Int))∧∀u∈(nd t i).iA,(iD (i:Int)).1≤u∧u≤(iD (i:Int)).2∧cB t u:=Iff.rfl;have iL:=cT i aY;have TL:=hrn i;have xc2:=hul i;have Zu:=fun s=>B3 (nd t i).name s;have hun:=fun s=>nq (Γ:=Γ) (i:Int) s;generalize (iD (i:Int)).1=ua at *
    generalize (iD (i:Int)).2=ub at *
    generalize sf t (nd t i).name=NI at *
    generalize nd t i=N at *
    obtain⟨nk,nm,ny,ll,nu⟩:=N;unfold ah.cells at iL TL;simp only at Zu xc2 eY;unfold aG at iL TL;have cA:(0:Int)≤(i:Int):=(by omega);have mR:iW (i:Int) 2=((i%2:Nat):Int):=lP i 2;have LS:kX .i64 (i:Int) 2=((i/2:Nat):Int):=dL i (by omega);have bb:((true != true)=false∧(false != false)=false)∧((true != false)=true∧(false != true)=true):=⟨⟨rfl,rfl⟩,rfl,rfl⟩;have bc:((true==true)=true∧(false==false)=true)∧((true==false)=false∧(false==true)=false):=⟨⟨rfl,rfl⟩,rfl,rfl⟩;have bX:tV t i→∀(E:Env),E 4=.v (.int .i64 i)→E 3=.v (.int .i64 (aI t))→E 0=.sl 5 t.length X .any→K3 E s2:=by
     intro hg E f4 f3 f0;refine bq _ _ ?_;clear bq K3;refine jD (Ai @f4 (bd i (by omega))) ?_;refine⟨⟨i+1,by omega,?_,rfl,f3,f0,rfl⟩,?_⟩
     ·intro j hj;by_cases e:j=i
      ·rw[e];exact hg
      ·exact bS j (by omega)
     ·simp only[g4,aB,↓reduceIte];omega
    clear bq;refine aX 5 (by decide) ?_;intro K5 ju;refine jN (Ai @g0 (Ai @g4 (Ai @au (Ai @aY (Ai @cA @iL))))) ?_;intro o1 h1;refine ju _ _ o1 _ rfl h1 ?_;clear ju K5 h1;refine wK fun K4 dM=>?_;have h4:(ah.right ⟨nk,nm,ny,ll,nu⟩∧(nk=0∨(nk=1↔i%2=0)))→∀(E:Env),E 4=.v (.int .i64 i)→E 3=.v (.int .i64 (aI t))→E 0=.sl 5 t.length X .any→E 5=.cN [.v (.int .i64 nk),.sl 1 nm.length (nm.map ae) .any,.v (.int .u64 ny),.sl 1 ll.length (ll.map ae) .any,.sl 1 nu.length (nu.map aJ) .any]→K4 E s2:=by
     clear g4 g3 g0;rintro⟨gr,gk⟩ E g4 g3 g0 g5;refine dM _ _ ?_;clear dM K4;refine wK fun K6 kU=>?_;have h6:(nk=1→NI=((i/2:Nat):Int))→∀(E:Env),E 4=.v (.int .i64 i)→E 3=.v (.int .i64 (aI t))→E 0=.sl 5 t.length X .any→E 5=.cN [.v (.int .i64 nk),.sl 1 nm.length (nm.map ae) .any,.v (.int .u64 ny),.sl 1 ll.length (ll.map ae) .any,.sl 1 nu.length (nu.map aJ) .any]→K6 E s2:=by
      clear g4 g3 g0 g5;intro gn E g4 g3 g0 g5;refine kU _ _ ?_;clear kU K6;refine jS @g4 fun K hK=>?_;refine ad (hun _) ?_;rintro r s3 ⟨rfl,rfl⟩;refine jR hK ?_;clear hK K;refine jA ?_;refine ag ?_;refine aD (fun E s4=>∃k:Nat,k≤nu.length∧(∀u∈nu.take k,ua≤u∧u≤ub∧cB t u)∧E 8=.v (.int .i64 k)∧E 6=.v (.int .i64 ua)∧E 7=.v (.int .i64 ub)∧E 4=.v (.int .i64 i)∧E 3=.v (.int .i64 (aI t))∧E 0=.sl 5 t.length X .any∧E 5=.cN [.v (.int .i64 nk),.sl 1 nm.length (nm.map ae) .any,.v (.int .u64 ny),.sl 1 ll.length (ll.map ae) .any,.sl 1 nu.length (nu.map aJ) .any]∧s4=s3)
       (fun E _=>match E 8 with |.v (.int _ i)=>nu.length-i.toNat|_=>0) ?_ ?_
      ·exact⟨0,Nat.zero_le _,(by intro u hu;simp at hu),rfl,rfl,rfl,g4,g3,g0,g5,rfl⟩
      ·clear g4 g3 g0 g5;rintro E2 s4 ⟨k,hk,hku,g8,g6,g7,g4,g3,g0,g5,rfl⟩ -
       refine wK fun K7 Fe=>?_;by_cases tF:k<nu.length
       ·refine jB (Ai @g8 (Ai @g5 (Ai @au (decide_eq_true tF)))) ?_;refine jE ?_;refine ab ?_;refine Fe _ _ ?_;clear Fe K7;refine wK fun K8 UY=>?_;refine ag ?_;have hgk:(0:Int)≤(k:Int):=(by omega);have Hk:=eB tF;have Mv:nu[k]∈nu:=List.getElem_mem tF;have xc4:nu.take (k+1)=nu.take k++[nu[k]]:=List.take_succ_eq_append_getElem tF;generalize nu[k]=u at *
        have Zx:(ua≤u∧u≤ub∧cB t u)→∀(E:Env),E 8=.v (.int .i64 k)→E 6=.v (.int .i64 ua)→E 7=.v (.int .i64 ub)→E 4=.v (.int .i64 i)→E 3=.v (.int .i64 (aI t))→E 0=.sl 5 t.length X .any→E 5=.cN [.v (.int .i64 nk),.sl 1 nm.length (nm.map ae) .any,.v (.int .u64 ny),.sl 1 ll.length (ll.map ae) .any,.sl 1 nu.length (nu.map aJ) .any]→K8 E s4:=by
         intro hu E f8 f6 f7 f4 f3 f0 f5;refine UY _ _ ?_;clear UY K8;refine jD (Ai @f8 (bd k (by omega))) ?_;refine⟨⟨k+1,by omega,?_,rfl,f6,f7,f4,f3,f0,f5,rfl⟩,?_⟩
         ·intro v hv;rw[xc4,List.mem_append,List.mem_singleton] at hv;rcases hv with hv|rfl
          ·exact hku v hv
          ·exact hu
         ·simp only[g8,aB,↓reduceIte];omega
        clear UY;refine jB (Ai @g5 (Ai @g8 (Ai @au (Ai @tF (Ai @hgk (Ai @Hk @aJ.eq_1)))))) ?_;by_cases u1:u<ua
        ·refine jB (Ai @g6 (decide_eq_true u1)) ?_;refine jE ?_;refine jA ?_;refine jI ?_;rw[yS (fun q=>by have:=((eY.1 q).2.2.2 u Mv).1;omega)];exact jW ⟨rfl,rfl⟩
        ·by_cases u2:ub<u
         ·refine jB (Ai @g6 (Ai @g7 (Ai (decide_eq_false u1) (decide_eq_true u2)))) ?_;refine jE ?_;refine jA ?_;refine jI ?_;rw[yS (fun q=>by have:=((eY.1 q).2.2.2 u Mv).2.1;omega)];exact jW ⟨rfl,rfl⟩
         ·refine jS (Ai @g6 (Ai @g7 (Ai @g0 (Ai (decide_eq_false u1) (decide_eq_false u2))))) fun K hK=>?_;refine ad (Px _ _) ?_;rintro r s5 ⟨rfl,rfl⟩;by_cases u3:cB t u
          ·rw[decide_eq_true u3];refine jR hK ?_;clear hK K;refine jF ?_;refine ab ?_;simp only[aq,aA,if_true,if_false];exact Zx ⟨by omega,by omega,u3⟩ _ g8 g6 g7 g4 g3 g0 g5
          ·rw[decide_eq_false u3];refine jR hK ?_;clear hK K;refine jE ?_;refine jA ?_;refine jI ?_;rw[yS (fun q=>u3 ((eY.1 q).2.2.2 u Mv).2.2)];exact jW ⟨rfl,rfl⟩
       ·refine jB (Ai @g8 (Ai @g5 (Ai @au (decide_eq_false tF)))) ?_;refine jF ?_;refine aC ?_;simp only[aA,aq,if_true,if_false];rw[List.take_of_length_le (by omega)] at hku;exact bX (eY.2 ⟨gr,gk,gn,hku⟩) _ g4 g3 g0
     clear kU;by_cases k1:nk=1
     ·refine jS (Ai @g5 (Ai (lU k1) @g0)) fun K hK=>?_;refine ad (Zu _) ?_;rintro r s3 ⟨rfl,rfl⟩;by_cases hn:NI=((i/2:Nat):Int)
      ·refine jV (Ai @g4 (Ai @lV (Ai @LS (eqI hn)))) hK ?_;clear hK K;refine jF ?_;refine ab ?_;exact h6 (fun _=>hn) _ g4 g3 g0 g5
      ·refine jV (Ai @g4 (Ai @lV (Ai @LS (UN hn)))) hK ?_;clear hK K;refine jE ?_;refine jA ?_;refine jI ?_;rw[yS (fun q=>hn ((eY.1 q).2.2.1 k1))];exact jW ⟨rfl,rfl⟩
     ·refine jB (Ai @g5 (ko k1)) ?_;refine jF ?_;refine ab ?_;exact h6 (fun q=>absurd q k1) _ g4 g3 g0 g5
    clear dM;refine jQ fun K hK=>?_;refine ad (TL _) ?_;rintro r s3 ⟨rfl,rfl⟩;by_cases gr:ah.right ⟨nk,nm,ny,ll,nu⟩
    ·rw[decide_eq_true gr];by_cases k0:nk=0
     ·refine jV (eqI k0) hK ?_;clear hK K;refine jF ?_;refine ab ?_;exact h4 ⟨gr,.inl k0⟩ _ g4 g3 g0 rfl
     ·by_cases k1:nk=1
      ·by_cases kp:i%2=0
       ·have t2:(iW (i:Int) 2==0)=true:=(by rw[mR];exact lU (by omega));simp only[↓DM,bE,DX,Nz,↓DN,Qa,Qb,Qc,Qd,Qe,Qf,Qg,Qh,reduceCtorEq,↓reduceIte,Na,Nb,Nc,Nk,Nf,Ng,Nh,Za,Zb,Zc,TT,UN k0,lU k1,g4,lV,t2,bb,bc];refine hK _ _ ?_;clear hK K;refine jF ?_;refine ab ?_;exact h4 ⟨gr,.inr ⟨fun _=>kp,fun _=>k1⟩⟩ _ g4 g3 g0 rfl
       ·have t2:(iW (i:Int) 2==0)=false:=(by rw[mR];exact ko (by omega));simp only[↓DM,bE,DX,Nz,↓DN,Qa,Qb,Qc,Qd,Qe,Qf,Qg,Qh,reduceCtorEq,↓reduceIte,Na,Nb,Nc,Nk,Nf,Ng,Nh,Za,Zb,Zc,TT,UN k0,lU k1,g4,lV,t2,bb,bc];refine hK _ _ ?_;clear hK K;refine jE ?_;refine jA ?_;refine jI ?_;rw[yS (fun q=>by rcases(eY.1 q).2.1 with h|h;exact k0 h;exact kp (h.1 k1))];exact jW ⟨rfl,rfl⟩
      ·by_cases kp:i%2=0
       ·have t2:(iW (i:Int) 2==0)=true:=(by rw[mR];exact lU (by omega));simp only[↓DM,bE,DX,Nz,↓DN,Qa,Qb,Qc,Qd,Qe,Qf,Qg,Qh,reduceCtorEq,↓reduceIte,Na,Nb,Nc,Nk,Nf,Ng,Nh,Za,Zb,Zc,TT,UN k0,ko k1,g4,lV,t2,bb,bc];refine hK _ _ ?_;clear hK K;refine jE ?_;refine jA ?_;refine jI ?_;rw[yS (fun q=>by rcases(eY.1 q).2.1 with h|h;exact k0 h;exact k1 (h.2 kp))];exact jW ⟨rfl,rfl⟩
       ·have t2:(iW (i:Int) 2==0)=false:=(by rw[mR];exact ko (by omega));simp only[↓DM,bE,DX,Nz,↓DN,Qa,Qb,Qc,Qd,Qe,Qf,Qg,Qh,reduceCtorEq,↓reduceIte,Na,Nb,Nc,Nk,Nf,Ng,Nh,Za,Zb,Zc,TT,UN k0,ko k1,g4,lV,t2,bb,bc];refine hK _ _ ?_;clear hK K;refine jF ?_;refine ab ?_;exact h4 ⟨gr,.inr ⟨fun h=>absurd h k1,fun h=>absurd h kp⟩⟩ _ g4 g3 g0 rfl
    ·rw[decide_eq_false gr];refine jR hK ?_;clear hK K;refine jE ?_;refine jA ?_;refine jI ?_;rw[yS (fun q=>gr (eY.1 q).1)];exact jW ⟨rfl,rfl⟩
   ·refine jB (Ai @g4 (Ai @g0 (Ai @au (decide_eq_false aY)))) ?_;refine jF ?_;refine aC ?_;simp only[aA,aq,if_true];refine hK _ _ ?_;clear hK aU K2 K;have Mu:∀j,j<t.length→tV t j:=fun j h=>bS j (by omega);have dV:=qG hz Mu;by_cases h1:aI t=1
    ·have e1:=lU (show((aI t:Nat):Int)=1 by omega);rw[e1] at dV;refine jB (Ai @g3 @e1) ?_;refine jI ?_;rw[dV];exact jW ⟨rfl,rfl⟩
    ·have e1:=ko (show ¬((aI t:Nat):Int)=1 by omega);rw[e1,Bool.false_or] at dV;have e2:kX .i64 (aI t:Int) 2=((aI t/2:Nat):Int):=dL _ (by omega);have e3:dr .i64 (aI t:Int) 1=(((aI t/2+(aI t-aI t/2):Nat)):Int)-1:=(by rw[bO (by omega)];omega);have hcm:=fun s=>DE (aI t/2) (aI t-aI t/2) (by omega) s;generalize (((aI t/2+(aI t-aI t/2):Nat)):Int)-1=LL at *
     refine jS (Ai @g3 (Ai @e1 (Ai @lV (Ai @e2 (Ai @e3 @g0))))) fun K hK=>?_;refine ad (hcm _) ?_;rintro r s3 ⟨rfl,rfl⟩;refine jR hK ?_;clear hK K;refine jI ?_;rw[dV];exact jW ⟨rfl,rfl⟩
theorem yU(s:AS):aj prog Γ 51 [bU] s (fun r s'=>r=al [] .any∧s'=s):=by
 refine aa func51 rfl ntmps51 results51 (by simp) ?_;unfold bU;refine jA ?_;refine wK fun K hK=>?_;refine jA ?_;refine jE ?_;refine jA ?_;refine jI ?_;exact⟨_,_,AV.aM,AS.le.refl _,rfl,rfl⟩
theorem Ar(l:List UInt8)(s:AS)(hl:l.length≤2^45):aj prog Γ 51 [al l .no] s (fun r s'=>r=al l .any∧s'=s):=by
 refine aa func51 rfl ntmps51 results51 (by simp) ?_;unfold al;refine jA ?_;refine wK fun K hK=>?_;refine jB @and_false ?_;refine jF ?_;refine ab ?_;refine hK _ _ ?_;clear hK K;by_cases h0:l.length=0
 ·have uA:l=[]:=List.eq_nil_of_length_eq_zero h0;subst uA;refine jA ?_;refine jI ?_;exact⟨_,s,AV.bN,AS.le.refl s,rfl,rfl⟩
 ·refine jS @h0 fun K hK=>?_;refine⟨by omega,by omega,fun t ht=>hK _ _ ?_⟩;clear hK K;refine jI ?_;exact⟨_,s,AV.bN,AS.bn (AS.le.refl s) ht 0,rfl,rfl⟩
theorem fZ(l:List UInt8)(s:AS)(hl:l.length≤2^45):aj prog Γ 51 [al l .any] s (fun r s'=>r=al l .any∧s'=s):=
 aj.any (pre:=[]) (post:=[]) (fun e=>by subst e;exact yU s) (Ar l s hl)
theorem fE(hG:Γ 3=fi.map oJ)(t:List ah)(ht:eI t)(s:AS):aj prog Γ 45 [aW t] s (fun r s'=>r=.v (.int .i64 (if bf t then aI t else 0:Nat))∧s'=s):=by
 refine aa func45 rfl ntmps45 results45 (by simp) ?_;have hr:=fun s=>kf (Γ:=Γ) hG t ht s;have hl:=fun s=>oq (Γ:=Γ) t ht.1 s;unfold aW at *
 generalize aK ah.cells t=X at *
 refine jA ?_;refine wK fun K hK=>?_;refine jQ fun K hK=>?_;refine ad (hr _) ?_;rintro r s1 ⟨rfl,rfl⟩;by_cases h:bf t
 ·rw[decide_eq_true h];refine jR hK ?_;clear hK K;refine jF ?_;refine ab ?_;refine hK _ _ ?_;clear hK K;refine jK (hl _) ?_;rintro s2 rfl;refine jI ?_;rw[if_pos h];exact jW ⟨rfl,rfl⟩
 ·rw[decide_eq_false h];refine jR hK ?_;clear hK K;refine jE ?_;refine jA ?_;refine jI ?_;rw[if_neg h];exact jW ⟨rfl,rfl⟩
def ep(x i:Int):Bool:=decide ((iD x).1≤i∧i≤(iD x).2)
theorem m8(hG:Γ 3=fi.map oJ)(x i:Int)(s:AS):aj prog Γ 73 [.v (.int .i64 x),.v (.int .i64 i)] s (fun r s'=>r=.v (.bool (ep x i))∧s'=s):=by
 refine aa func73 rfl ntmps73 results73 (by simp) ?_;have hu:=fun s=>rj (Γ:=Γ) hG x s;unfold ep;generalize iD x=U at *
 refine jA ?_;refine jK (hu _) ?_;rintro s1 rfl;by_cases h:U.1≤i
 ·refine jB (decide_eq_true h) ?_;refine jI ?_;exact jW ⟨by simp[h],rfl⟩
 ·refine jB (decide_eq_false h) ?_;refine jI ?_;exact jW ⟨by simp[h],rfl⟩
theorem iI(t:List ah)(ht:t.length≤2^61)(i:Int)(s:AS):aj prog Γ 70 [aW t,.v (.int .i64 i)] s (fun r s'=>r=.v (.bool (decide (cB t i)))∧s'=s):=by
 refine aa func70 rfl ntmps70 results70 (by simp) ?_;unfold aW;have e0:kX .i64 (t.length:Int) 2=((t.length/2:Nat):Int):=dL _ (by omega);refine jA ?_;by_cases h0:0≤i
 ·obtain⟨n,rfl⟩:=Int.eq_ofNat_of_zero_le h0;by_cases h1:n≤t.length/2
  ·by_cases h2:2*n<t.length
   ·have cT:=dh h2;have hk:decide (cB t (n:Int))=((nd t (2*n)).kind==1):=by
     rw[Bool.eq_iff_iff,decide_eq_true_iff,beq_iff_eq];unfold cB;rw[Int.toNat_natCast];exact⟨fun k=>k.2.2,fun k=>⟨h0,by omega,k⟩⟩
    generalize nd t (2*n)=N at *
    generalize aK ah.cells t=X at *
    obtain⟨k,nm,y,pa,u⟩:=N;unfold ah.cells at cT;have cA:(0:Int)≤((2*n:Nat):Int):=(by omega);refine jB (Ai @lV (Ai (decide_eq_true h0) (Ai @e0 (Ai (decide_eq_true (show((n:Nat):Int)≤((t.length/2:Nat):Int) by omega)) (Ai (bZ n (by omega)) (Ai @au (Ai @h2 (Ai @cA (Ai @cT (decide_eq_true h2)))))))))) ?_;refine jI ?_;rw[hk];exact jW ⟨rfl,rfl⟩
   ·have hk:decide (cB t (n:Int))=false:=decide_eq_false fun k=>h2 (by have:=k.2.1;omega);refine jB (Ai @lV (Ai (decide_eq_true h0) (Ai @e0 (Ai (decide_eq_true (show((n:Nat):Int)≤((t.length/2:Nat):Int) by omega)) (Ai (bZ n (by omega)) (Ai @au (decide_eq_false h2))))))) ?_;refine jI ?_;rw[hk];exact jW ⟨rfl,rfl⟩
  ·have hk:decide (cB t (n:Int))=false:=decide_eq_false fun k=>h1 (by have:=k.2.1;omega);refine jB (Ai @lV (Ai (decide_eq_true h0) (Ai @e0 (decide_eq_false (show ¬((n:Nat):Int)≤((t.length/2:Nat):Int) by omega))))) ?_;refine jI ?_;rw[hk];exact jW ⟨rfl,rfl⟩
 ·have hk:decide (cB t i)=false:=decide_eq_false fun k=>h0 k.1;refine jB (Ai @lV (decide_eq_false h0)) ?_;refine jI ?_;rw[hk];exact jW ⟨rfl,rfl⟩
def lj(t:List ah)(i:Int):Int:=if bf t then(if cB t i then 0 else 43) else 40
theorem pS(hG:Γ 3=fi.map oJ)(t:List ah)(ht:eI t)(i:Int)(s:AS):aj prog Γ 40 [aW t,.v (.int .i64 i)] s (fun r s'=>r=.v (.int .i64 (lj t i))∧s'=s):=by
 refine aa func40 rfl ntmps40 results40 (by simp) ?_;have hr:=fun s=>kf (Γ:=Γ) hG t ht s;have hm:=fun s=>iI (Γ:=Γ) t ht.1 i s;unfold aW at *
 obtain⟨V,hV⟩:∃V,V=lj t i:=⟨_,rfl⟩;rw[←hV];unfold lj at hV;generalize aK ah.cells t=X at *
 refine jA ?_;refine wK fun K hK=>?_;refine ag ?_;refine jQ fun K hK=>?_;refine ad (hr _) ?_;rintro r s1 ⟨rfl,rfl⟩;by_cases h:bf t
 ·rw[if_pos h] at hV;rw[decide_eq_true h];refine jR hK ?_;clear hK K;refine jF ?_;refine jQ fun K hK=>?_;refine ad (hm _) ?_;rintro r s2 ⟨rfl,rfl⟩;by_cases h2:cB t i
  ·rw[if_pos h2] at hV;rw[decide_eq_true h2];refine jR hK ?_;clear hK K;refine jF ?_;refine ab ?_;simp only[aA,aq];refine hK _ _ ?_;clear hK K;refine jA ?_;refine jI ?_;exact jW ⟨by rw[hV],rfl⟩
  ·rw[if_neg h2] at hV;rw[decide_eq_false h2];refine jR hK ?_;clear hK K;refine jE ?_;refine jA ?_;refine jI ?_;exact jW ⟨by rw[hV],rfl⟩
 ·rw[if_neg h] at hV;rw[decide_eq_false h];refine jR hK ?_;clear hK K;refine jE ?_;refine jA ?_;refine jI ?_;exact jW ⟨by rw[hV],rfl⟩
theorem iK(hG:Γ 3=fi.map oJ)(leaf l:Nat)(hl:Fit l)(hn:leaf<l)(s:AS):aj prog Γ 46 [.v (.int .i64 leaf),.v (.int .i64 l)] s
  (fun r s'=>r=aG (aP (cQ leaf l)) .any∧s'=s):=by
 refine aa func46 rfl ntmps46 results46 (by simp) ?_;have F2:=hl.le;have xz:=fC hl hn;have jb:=fun s=>iF (Γ:=Γ) hG leaf l hl hn s;have Gi:=fun(i:Nat)(h:i<(az leaf l).length)(s:AS)=>yM (Γ:=Γ) hG (nodeAt leaf l i) l hl (pZ hl hn h).1 (pZ hl hn h).2.1 s;have TM:(aP (cQ leaf l)).length=(az leaf l).length:=(by simp[br,cQ]);have N5:∀i,i<(az leaf l).length→(aP (cQ leaf l)).take (i+1)=(aP (cQ leaf l)).take i++[((bY (nodeAt leaf l i):Nat):Int)]:=by
  intro i hi;rw[List.take_succ_eq_append_getElem (by rw[TM];exact hi)];simp[aP,cQ]
 have YW:(aP (az leaf l)).length=(az leaf l).length:=br _;have hPg:∀i,i<(az leaf l).length→(aP (az leaf l))[i]? =some ((nodeAt leaf l (i+1):Nat):Int):=by
  intro i hi;simp[aP,nodeAt,List.getD,hi]
 have Td:nodeAt leaf l 0=2*leaf:=rfl;generalize aP (cQ leaf l)=S at *
 generalize aP (az leaf l)=W at *
 generalize nodeAt leaf l=D at *
 generalize (az leaf l).length=k at *
 refine jA ?_;refine jA ?_;refine jB (bZ leaf (by omega)) ?_;refine wK fun K hK=>?_;refine jQ fun K hK=>?_;refine ad (jb _) ?_;rintro r s1 ⟨rfl,rfl⟩;refine jV @aG.eq_1 hK ?_;clear hK K;refine ag ?_;refine aD (fun E s2=>∃(i:Nat)(x:AV),i≤k∧E 15=.sl 1 W.length (W.map aJ) .any∧E 16=.v (.int .i64 W.length)∧E 17=.v (.int .i64 i)∧E 1=.v (.int .i64 l)∧E 6=.v (.int .i64 (D i:Nat))∧E 5=x∧cZ 1 s1 s2 x i ((S.take i).map aJ)∧s1.le s2)
  (fun E _=>k+1-lW (E 5)) ?_ ?_
 ·refine⟨0,bU,Nat.zero_le _,rfl,rfl,rfl,rfl,?_,rfl,cZ.nil _ _ _,AS.le.refl _⟩;rw[Td];simp only[aB,Nc,↓reduceIte]
 ·rintro E1 s2 ⟨i,x,hi,g15,g16,g17,g1,g6,g5,hx,hle⟩ -
  by_cases aY:i<k
  ·have bJ:((i:Nat):Int)<(W.length:Int):=(by omega);have h0:(0:Int)≤((i:Nat):Int):=(by omega);have fA:(List.take 1 (List.drop i (W.map aJ)))[0]? =some (AV.v (.int .i64 ((D (i+1):Nat):Int))):=by
    simp[List.getElem?_take,hPg i aY,aJ]
   refine jB (Ai @g16 (Ai @g17 (decide_eq_true bJ))) ?_;refine wK fun K2 aU=>?_;refine jE ?_;refine ab ?_;refine aU _ _ ?_;clear aU K2;refine wK fun K3 bq=>?_;refine ag ?_;refine jB (Ai @g15 (Ai @g17 (Ai @bJ (Ai @h0 @fA)))) ?_;refine jS (Ai @g6 @g1) fun K hK=>?_;refine ad (Gi i aY _) ?_;rintro r s3 ⟨rfl,rfl⟩;refine jR hK ?_;clear hK K;have eo:=N5 i aY;refine wK fun K4 dM=>?_;have bX:∀(E:Env)(s3:AS)(x3:AV),E 15=.sl 1 W.length (W.map aJ) .any→E 16=.v (.int .i64 W.length)→E 17=.v (.int .i64 i)→E 1=.v (.int .i64 l)→E 8=.v (.int .i64 (D (i+1):Nat))→E 5=x3→cZ 1 s1 s3 x3 (i+1) ((S.take (i+1)).map aJ)→s1.le s3→K4 E s3:=by
    intro E s3 x3 f15 f16 f17 f1 f8 f5 fx zZ;refine dM _ _ ?_;clear dM K4;refine jD @f8 ?_;refine bq _ _ ?_;clear bq K3;refine jD (Ai @f17 (bd i (by omega))) ?_;refine⟨⟨i+1,x3,aY,f15,f16,rfl,f1,rfl,f5,fx,zZ⟩,?_⟩;have m1:lW (E1 5)=i:=by
     rw[g5];rcases hx with⟨rfl,rfl,_⟩|⟨t,e,rfl,_⟩<;>rfl
    have m2:lW (E 5)=i+1:=by
     rw[f5];rcases fx with⟨rfl,h,_⟩|⟨t,e,rfl,_⟩
     ·omega
     ·rfl
    simp only[aB,Nc,↓reduceIte,m1,m2];omega
   clear dM;rcases hx with⟨rfl,fD,sF⟩|⟨t,e,rfl,ht,iG⟩
   ·refine wE fun K hK=>?_;simp only[↓DN,Qa,Qb,Qc,Qd,Qe,Qf,Qg,Qh,reduceCtorEq,↓reduceIte,Na,Nb,Nc,Nk,Nf,Ng,Nh,Za,Zb,Zc,TT,g5,bU,List.replicate_succ];intro t ht;refine hK _ _ (bX _ _ (.sl 1 1 [.v (.int .i64 ((bY (D i):Nat):Int))] (.own t 0)) g15 g16 g17 g1 rfl rfl ?_ ?_)
    ·refine .inr ⟨t,0,?_,by simp[AS.bA],aZ hle ht⟩;rw[eo,List.map_append,sF];subst fD;rfl
    ·exact AS.bn hle (aZ hle ht) 0
   ·refine wE fun K hK=>?_;simp only[↓DN,Qa,Qb,Qc,Qd,Qe,Qf,Qg,Qh,reduceCtorEq,↓reduceIte,Na,Nb,Nc,Nk,Nf,Ng,Nh,Za,Zb,Zc,TT,g5,ht,List.replicate_succ];have F3:(S.take i).length=i:=(by rw[List.length_take];omega);refine⟨by omega,by omega,hK _ _ (bX _ _ (.sl 1 (i+1) ((S.take i).map aJ++[.v (.int .i64 ((bY (D i):Nat):Int))]) (.own t (e+1))) g15 g16 g17 g1 rfl rfl ?_ ?_)⟩
    ·exact .inr ⟨t,e+1,by rw[eo,List.map_append];rfl,by simp[AS.bA],iG⟩
    ·exact AS.bn hle iG (e+1)
  ·have bJ:¬((i:Nat):Int)<(W.length:Int):=(by omega);refine jB (Ai @g16 (Ai @g17 (decide_eq_false bJ))) ?_;refine wK fun K2 aU=>?_;refine jF ?_;refine aC ?_;simp only[aA,aq,if_true];refine hK _ _ ?_;clear hK aU K2 K;obtain rfl:i=k:=(by omega);refine jB @g5 ?_;refine jI ?_;rw[List.take_of_length_le (by omega)] at hx;refine⟨_,_,?_,hle,rfl,rfl⟩;have:=hx.aE;unfold aG;rwa [TM]
end Go.Proofs.YtbiefppedlodiaaGreatDoor
namespace Go.AM
open Go
def JR(l:List ah):List UInt8:=(l.map ah.text).flatten
def Mw(t:List ah):List UInt8:=be 1 (aI t)++JR t
open Go Go.RowKit
variable{P:Program}{Γ:Nat→List AV}{G:Gh}{s:AS}{w:World}{N:Nat}
variable{Γ:Nat→List AV}{s:AS}
namespace Sha
def ew(a b:Nat):Nat:=(a+b)%4294967296
def my(x n:Nat):Nat:=(x/2^n) ||| ((x*2^(32-n))%4294967296)
def Mx(x a b c:Nat):Nat:=(my x a ^^^ my x b) ^^^ my x c
def C9(x a b c:Nat):Nat:=(my x a ^^^ my x b) ^^^ (x/2^c)
def Hl(a b c d:Nat):Nat:=((a*256+b)*256+c)*256+d
def word(c:List UInt8)(p:List Nat)(i:Nat):Nat:=
  if i<16 then Hl ((c.getD (4*i) 0).toNat) ((c.getD (4*i+1) 0).toNat) ((c.getD (4*i+2) 0).toNat) ((c.getD (4*i+3) 0).toNat)
  else ew (ew (ew (C9 (p.getD (i-2) 0) 17 19 10) (p.getD (i-7) 0)) (C9 (p.getD (i-15) 0) 7 18 3)) (p.getD (i-16) 0)
def mq(c:List UInt8):Nat→List Nat
  |0=>[]
  |n+1=>mq c n++[word c (mq c n) n]
theorem cH(c:List UInt8)(n:Nat):(mq c n).length=n:=by
  induction n with
  |zero=>rfl
  |succ n ih=>simp[mq,ih]
def t1(e f g h k w:Nat):Nat:=ew (ew (ew (ew h (Mx e 6 11 25)) ((e &&& f) ^^^ ((4294967295-e) &&& g))) k) w
def t2(a b c:Nat):Nat:=ew (Mx a 2 13 22) (((a &&& b) ^^^ (a &&& c)) ^^^ (b &&& c))
structure St where
  a:Nat
  b:Nat
  c:Nat
  d:Nat
  e:Nat
  f:Nat
  g:Nat
  h:Nat
def St.step(s:St)(k w:Nat):St:=
  ⟨ew (t1 s.e s.f s.g s.h k w) (t2 s.a s.b s.c),s.a,s.b,s.c,ew s.d (t1 s.e s.f s.g s.h k w),s.e,s.f,s.g⟩
def St.add(s t:St):St:=⟨ew s.a t.a,ew s.b t.b,ew s.c t.c,ew s.d t.d,ew s.e t.e,ew s.f t.f,ew s.g t.g,ew s.h t.h⟩
def St.list(s:St):List Nat:=[s.a,s.b,s.c,s.d,s.e,s.f,s.g,s.h]
structure St.ok(s:St):Prop where
  a:s.a<4294967296
  b:s.b<4294967296
  c:s.c<4294967296
  d:s.d<4294967296
  e:s.e<4294967296
  f:s.f<4294967296
  g:s.g<4294967296
  h:s.h<4294967296
def K:List Nat:=[
  0x428a2f98,0x71374491,0xb5c0fbcf,0xe9b5dba5,0x3956c25b,0x59f111f1,0x923f82a4,0xab1c5ed5,
  0xd807aa98,0x12835b01,0x243185be,0x550c7dc3,0x72be5d74,0x80deb1fe,0x9bdc06a7,0xc19bf174,
  0xe49b69c1,0xefbe4786,0x0fc19dc6,0x240ca1cc,0x2de92c6f,0x4a7484aa,0x5cb0a9dc,0x76f988da,
  0x983e5152,0xa831c66d,0xb00327c8,0xbf597fc7,0xc6e00bf3,0xd5a79147,0x06ca6351,0x14292967,
  0x27b70a85,0x2e1b2138,0x4d2c6dfc,0x53380d13,0x650a7354,0x766a0abb,0x81c2c92e,0x92722c85,
  0xa2bfe8a1,0xa81a664b,0xc24b8b70,0xc76c51a3,0xd192e819,0xd6990624,0xf40e3585,0x106aa070,
  0x19a4c116,0x1e376c08,0x2748774c,0x34b0bcb5,0x391c0cb3,0x4ed8aa4a,0x5b9cca4f,0x682e6ff3,
  0x748f82ee,0x78a5636f,0x84c87814,0x8cc70208,0x90befffa,0xa4506ceb,0xbef9a3f7,0xc67178f2]
def H0:St:=⟨0x6a09e667,0xbb67ae85,0x3c6ef372,0xa54ff53a,0x510e527f,0x9b05688c,0x1f83d9ab,0x5be0cd19⟩
def rounds(w:List Nat)(s:St):Nat→St
  |0=>s
  |n+1=>(rounds w s n).step (K.getD n 0) (w.getD n 0)
def mix(s:St)(c:List UInt8):St:=s.add (rounds (mq c 64) s 64)
def nE(l:List UInt8)(i:Nat):List UInt8:=(l.drop (64*i)).take 64
def hash(l:List UInt8):Nat→St
  |0=>H0
  |n+1=>mix (hash l n) (nE l n)
def gL(n:Nat):Nat:=(119-n%64)%64
def wQ(n:Nat):List UInt8:=[UInt8.ofNat (8*n/2^56),UInt8.ofNat (8*n/2^48),UInt8.ofNat (8*n/2^40),UInt8.ofNat (8*n/2^32),UInt8.ofNat (8*n/2^24),UInt8.ofNat (8*n/2^16),UInt8.ofNat (8*n/2^8),UInt8.ofNat (8*n)]
def pad(l:List UInt8):List UInt8:=l++(128::(List.replicate (gL l.length) 0++wQ l.length))
theorem sn(l:List UInt8):(pad l).length=l.length+9+gL l.length:=by simp[pad,wQ];omega
theorem Ix(l:List UInt8):(pad l).length%64=0:=by rw[sn,gL];omega
def be(x:Nat):List UInt8:=[UInt8.ofNat (x/2^24),UInt8.ofNat (x/2^16),UInt8.ofNat (x/2^8),UInt8.ofNat x]
def St.bytes(s:St):List UInt8:=be s.a++be s.b++be s.c++be s.d++be s.e++be s.f++be s.g++be s.h
def sum(l:List UInt8):List UInt8:=(hash (pad l) ((pad l).length/64)).bytes
theorem du(l:List UInt8):(sum l).length=32:=rfl
theorem fL(a b:Nat):ew a b<4294967296:=Nat.mod_lt _ (by decide)
theorem cp{x:Nat}(n:Nat)(h:x<4294967296):my x n<4294967296:=
  Nat.or_lt_two_pow (n:=32) (Nat.lt_of_le_of_lt (Nat.div_le_self _ _) h) (Nat.mod_lt _ (by decide))
theorem PV(a b c d:UInt8):Hl a.toNat b.toNat c.toNat d.toNat<4294967296:=by
  have:=a.toNat_lt;have:=b.toNat_lt;have:=c.toNat_lt;have:=d.toNat_lt;simp only[Hl];omega
theorem PW(c:List UInt8)(p:List Nat)(i:Nat):word c p i<4294967296:=by
  unfold word;split
  · exact PV _ _ _ _
  · exact fL _ _
theorem TP(c:List UInt8)(n:Nat):∀x∈mq c n,x<4294967296:=by
  induction n with
  |zero=>intro x hx;simp[mq] at hx
  |succ n ih=>
    intro x hx;simp only[mq,List.mem_append,List.mem_singleton] at hx;rcases hx with hx|rfl
    · exact ih x hx
    · exact PW _ _ _
theorem mI(c:List UInt8)(n i:Nat):(mq c n).getD i 0<4294967296:=by
  rw[List.getD_eq_getElem?_getD];cases h:(mq c n)[i]? with
  |none=>simp
  |some x=>exact TP c n x (List.mem_of_getElem? h)
theorem Zy:H0.ok:=by constructor<;>decide
theorem St.ok.step{s:St}(h:s.ok)(k w:Nat):(s.step k w).ok:=⟨fL _ _,h.a,h.b,h.c,fL _ _,h.e,h.f,h.g⟩
theorem St.ok.add(s t:St):(s.add t).ok:=⟨fL _ _,fL _ _,fL _ _,fL _ _,fL _ _,fL _ _,fL _ _,fL _ _⟩
theorem vl{w:List Nat}{s:St}(h:s.ok):∀n,(rounds w s n).ok
  |0=>h
  |n+1=>(vl h n).step _ _
theorem TQ(s:St)(c:List UInt8):(mix s c).ok:=St.ok.add _ _
theorem Iy(l:List UInt8):∀n,(hash l n).ok
  |0=>Zy
  |n+1=>TQ _ _
end Sha
namespace Mac
def key(k:List UInt8):List UInt8:=if 64<k.length then Sha.sum k else k
def fill(k:List UInt8):List UInt8:=k++List.replicate (64-k.length) 0
def turn(x:UInt8)(l:List UInt8):List UInt8:=l.map fun c=>c ^^^ x
def inner(k l:List UInt8):List UInt8:=Sha.sum (turn 54 (fill (key k))++l)
def tag(k l:List UInt8):List UInt8:=Sha.sum (turn 92 (fill (key k))++inner k l)
theorem My(k:List UInt8):(key k).length≤64:=by
  unfold key;split
  · rw[Sha.du];decide
  · omega
theorem qd(k:List UInt8)(h:k.length≤64):(fill k).length=64:=by simp[fill];omega
theorem nz(x:UInt8)(l:List UInt8):(turn x l).length=l.length:=by simp[turn]
theorem mK(k l:List UInt8):(tag k l).length=32:=Sha.du _
theorem BD(k l:List UInt8):(inner k l).length=32:=Sha.du _
def part(x:UInt8)(l:List UInt8)(i:Nat):List UInt8:=turn x (l.take i)++l.drop i
theorem JS(x:UInt8)(l:List UInt8):part x l 0=l:=by simp[part,turn]
theorem Mz(x:UInt8)(l:List UInt8)(i:Nat)(h:l.length≤i):part x l i=turn x l:=by
  rw[part,List.take_of_length_le h,List.drop_eq_nil_of_le h,List.append_nil]
theorem Fl(x:UInt8)(l:List UInt8)(i:Nat):(part x l i).length=l.length:=by simp[part,turn];omega
theorem MA(x:UInt8)(l:List UInt8)(i:Nat)(h:i<l.length):List.drop i ((part x l i).map ae)=ae (l.getD i 0)::List.drop (i+1) ((part x l i).map ae):=by
  have hl:((part x l i).map ae).length=l.length:=(by rw[List.length_map,Fl]);rw[List.drop_eq_getElem_cons (by omega)];congr 1;rw[List.getElem_map];congr 1;simp only[part];rw[List.getElem_append_right (by simp[turn];omega)];have e:(turn x (l.take i)).length=i:=(by simp[turn];omega);simp only[e,Nat.sub_self,List.getElem_drop,Nat.add_zero];simp[List.getD_eq_getElem?_getD,h]
theorem MB(x:UInt8)(l:List UInt8)(i:Nat)(h:i<l.length):((part x l i).map ae).set i (ae (l.getD i 0 ^^^ x))=(part x l (i+1)).map ae:=by
  rw[←List.map_set];congr 1;simp only[part];have e:(turn x (l.take i)).length=i:=(by simp[turn];omega);rw[List.set_append_right _ _ (by omega),e,Nat.sub_self,List.drop_eq_getElem_cons h,List.set_cons_zero,List.take_succ_eq_append_getElem h];simp only[turn,List.map_append,List.map_cons,List.map_nil,List.append_assoc,List.cons_append,List.nil_append,List.getD_eq_getElem?_getD,List.getElem?_eq_getElem h,Option.getD_some]
theorem yV(a b:UInt8):DP .u8 (a.toNat:Int) (b.toNat:Int)=(((a ^^^ b).toNat:Nat):Int):=by
  rw[Gn (k:=.u8) rfl a.toNat b.toNat (by simpa[IntKind.bits] using a.toNat_lt) (by simpa[IntKind.bits] using b.toNat_lt),UInt8.toNat_xor]
theorem m9:∀(ds cs:List AV)(off:Nat),off+ds.length≤cs.length→bp cs off ds=cs.take off++ds++cs.drop (off+ds.length)
  |[],cs,off,h=>by simp[bp]
  |d::ds,cs,off,h=>by
    rw[bp,m9 ds (cs.set off d) (off+1) (by simp at h⊢;omega)];simp only[List.length_cons] at h;have h1:(cs.set off d).take (off+1)=cs.take off++[d]:=by
      rw[List.take_succ_eq_append_getElem (by simp;omega),List.getElem_set_self,List.take_set_of_le (Nat.le_refl off)]
    have h2:(cs.set off d).drop (off+1+ds.length)=cs.drop (off+(ds.length+1)):=by
      rw[List.drop_set_of_lt (by omega)];congr 1;omega
    rw[h1,h2,List.length_cons];simp
theorem Hm(k:List UInt8)(h:k.length≤64):bp (List.replicate 64 (ae 0)) 0 (k.map ae)=(fill k).map ae:=by
  rw[m9 _ _ _ (by simpa using h)];simp only[List.take_zero,List.nil_append,Nat.zero_add,List.length_map,fill,List.map_append,List.map_replicate,List.drop_replicate]
end Mac
open Go
end Go.AM
namespace Go.AM
open Go
theorem oe(t:List ah)(i:Nat)(x:ah)(j:Nat):nd (t.set i x) j=if i=j∧i<t.length then x else nd t j:=by
  unfold nd;simp only[List.getD_eq_getElem?_getD,List.getElem?_set];by_cases h:i=j
  · by_cases k:i<t.length
    · rw[if_pos h,if_pos k,if_pos ⟨h,k⟩];rfl
    · rw[if_pos h,if_neg k,if_neg (fun q=>k q.2)];subst h;rw[List.getElem?_eq_none (by omega)]
  · rw[if_neg h,if_neg (fun q=>h q.1)]
theorem G8{leaf l:Nat}(hl:Fit l)(h:leaf<l):(az leaf l).Nodup:=by
  obtain⟨m,hm,rfl⟩:=hl.pow;exact(by decide+kernel:∀m≤5,∀leaf<2^m,(az leaf (2^m)).Nodup) m hm leaf h
theorem yW{t:List ah}{L:Nat}(hL:aI t=L)(i:Int):et t i↔0≤i∧i<(L:Int)∧(nd t (2*i.toNat)).kind=1:=by unfold et;rw[hL]
theorem mf{t:List ah}{L:Nat}(hL:aI t=L)(i:Nat):et t (i:Int)↔i<L∧(nd t (2*i)).kind=1:=by
  rw[yW hL,Int.toNat_natCast];exact⟨fun h=>⟨by omega,h.2.2⟩,fun h=>⟨by omega,by omega,h.2⟩⟩
theorem yv{t:List ah}{L:Nat}(hL:Fit L)(hlen:t.length=2*L-1):bf t↔
    (∀i,i<2*L-1→(nd t i).right∧((nd t i).kind=0∨((nd t i).kind=1↔i%2=0))∧∀u∈(nd t i).iA,(lo i:Int)≤u∧u≤(hi i:Int)∧0≤u∧u<(L:Int)∧(nd t (2*u.toNat)).kind=1)∧
    (∀a b,a<b→b<L→(nd t (2*a)).kind=1→(nd t (2*b)).kind=1→(nd t (2*b)).name≠(nd t (2*a)).name)∧
    (L=1∨∃j,L/2≤j∧j<L∧(nd t (2*j)).kind=1):=by
  have hl:=Hc hL hlen;have hb:=hL.le;have hh:ev t=L:=(by unfold ev;omega);have Cx:∀i,i<2*L-1→iD (i:Int)=((lo i:Int),(hi i:Int)):=by
    intro i aY;unfold iD;rw[if_pos (by omega),Int.toNat_natCast]
  have xc5:0<ga (et t) (L/2) (L-L/2)↔∃j,L/2≤j∧j<L∧(nd t (2*j)).kind=1:=by
    rw[yH];constructor
    · rintro⟨j,h1,h2⟩;have:=(mf hl _).1 h2;exact⟨L/2+j,by omega,this.1,this.2⟩
    · rintro⟨j,h1,h2,h3⟩;refine⟨j-L/2,by omega,?_⟩;rw[show L/2+(j-L/2)=j by omega];exact(mf hl _).2 ⟨h2,h3⟩
  unfold bf;rw[hl,xc5];constructor
  · rintro⟨_,h2,h3⟩;refine⟨fun i aY=>?_,fun a b zF hbL ha KU=>?_,h3⟩
    · obtain⟨⟨k1,k2,k3⟩,_⟩:=h2 i (by omega);refine⟨k1,k2,fun u hu=>?_⟩;obtain⟨q1,q2,q3⟩:=k3 u hu;rw[Cx i aY] at q1 q2;have:=(yW hl u).1 q3;exact⟨q1,q2,this.1,this.2.1,this.2.2⟩
    · intro e;have:=(h2 (2*a) (by omega)).2 (by omega) (by rw[show 2*a/2=a by omega];exact(mf hl a).2 ⟨by omega,ha⟩) b (by omega) (by omega);exact this ⟨(mf hl b).2 ⟨hbL,KU⟩,e⟩
  · rintro⟨h1,h2,h3⟩;refine⟨by omega,fun i aY=>⟨⟨?_,?_,?_⟩,?_⟩,h3⟩
    · exact(h1 i (by omega)).1
    · exact(h1 i (by omega)).2.1
    · intro u hu;obtain⟨q1,q2,q3,q4,q5⟩:=(h1 i (by omega)).2.2 u hu;rw[Cx i (by omega)];exact⟨q1,q2,(yW hl u).2 ⟨q3,q4,q5⟩⟩
    · intro he hm j hj hij ⟨hmj,hn⟩;have h5:=(mf hl _).1 hm;have h6:=(mf hl _).1 hmj;rw[show 2*(i/2)=i by omega] at h5;refine h2 (i/2) j hij h6.1 (by rw[show 2*(i/2)=i by omega];exact h5.2) h6.2 ?_;rw[show 2*(i/2)=i by omega];exact hn
theorem JC{l:List Int}(h:l.Pairwise (· < ·))(k:∀x∈l,0≤x∧x<32):jq l:=by
  intro i hi;refine tC hi (k _ (List.getElem_mem hi)).1 (k _ (List.getElem_mem hi)).2 (fun h0=>?_);exact List.pairwise_iff_getElem.1 h (i-1) i (by omega) hi (by omega)
open Go Go.RowKit
variable{P:Program}{Γ:Nat→List AV}{s:AS}
def zN:List AV:=[.v (.int .i64 0),.v (.slice none 0 0),.v (.int .u64 0),.v (.slice none 0 0),.v (.slice none 0 0)]
def pN:ah×AV:=(ah.gT,bU)
end Go.AM
namespace Go.Proofs.YtbiefppedlodiaaGreatDoor
open Go Go.AM Go.Proofs Tryz
variable{Γ:Nat→List AV}
abbrev wV(x:Nat):AV:=.v (.int .u32 (x:Int))
theorem ug(a:Nat)(h:a<32):DQ .i64 (a:Int)= -(a:Int):=by
 rw[DQ,IntWalk.i64_in _ (by omega)];omega
theorem JT(a:Nat)(h0:0<a)(h:a<32):mr .u64 (cE .u64 (-(a:Int))) 31=((32-a:Nat):Int):=by
 have e:cE .u64 (-(a:Int))=((18446744073709551616-a:Nat):Int):=by
  rw[cE,kI rfl];simp only[IntKind.bits];omega
 rw[e,show(31:Int)=((31:Nat):Int) from rfl,rM rfl _ _ (by simp only[IntKind.bits];omega) (by decide)];congr 1;have :(18446744073709551616-a) &&& 31=(18446744073709551616-a)%2^5:=Nat.and_two_pow_sub_one_eq_mod _ 5;rw[this];omega
theorem mL(a:Nat):¬((a:Nat):Int)<0:=by omega
theorem PX(a:Nat)(h0:0<a)(h:a<32):dr .u64 32 ((32-a:Nat):Int)=((a:Nat):Int):=by
 have:=A1 (k:=.u64) rfl 32 (32-a) (by omega) (by decide);rw[show(32:Int)=((32:Nat):Int) from rfl,this];congr 1;omega
theorem PY(x a:Nat)(hx:x<4294967296)(h0:0<a)(h:a<32):F6 .u32 (kC .u32 (x:Int) ((32-a:Nat):Int)) (eU .u32 (x:Int) ((a:Nat):Int))=((Sha.my x a:Nat):Int):=by
 rw[rN rfl,ir];rw[A2 rfl _ _ (Nat.mod_lt _ (by decide)) (by simp only[IntKind.bits];exact Nat.lt_of_le_of_lt (Nat.div_le_self _ _) hx)];rw[Sha.my,Nat.or_comm];simp only[IntKind.bits];rw[Nat.min_eq_left (by omega),Nat.min_eq_left (by omega)]
theorem pd(a b:Nat)(ha:a<4294967296)(hb:b<4294967296):DP .u32 (a:Int) (b:Int)=((a ^^^ b:Nat):Int):=Gn rfl a b ha hb
theorem As(a b:Nat)(ha:a<4294967296)(hb:b<4294967296):mr .u32 (a:Int) (b:Int)=((a &&& b:Nat):Int):=rM rfl a b ha hb
theorem Zz(a b:Nat)(ha:a<4294967296)(hb:b<4294967296):F6 .u32 (a:Int) (b:Int)=((a ||| b:Nat):Int):=A2 rfl a b ha hb
theorem uh(a b:Nat):dQ .u32 (a:Int) (b:Int)=((Sha.ew a b:Nat):Int):=uG rfl a b
theorem ZA(a:Nat)(ha:a<4294967296):Kv .u32 (a:Int)=((4294967295-a:Nat):Int):=Sz rfl a ha
theorem vm(a c:Nat)(hc:c<32):eU .u32 (a:Int) ((c:Nat):Int)=((a/2^c:Nat):Int):=by
 rw[ir];simp only[IntKind.bits];rw[Nat.min_eq_left (by omega)]
theorem MC(a c:Nat)(hc:c<32):kC .u32 (a:Int) ((c:Nat):Int)=(((a*2^c)%4294967296:Nat):Int):=by
 rw[rN rfl];simp only[IntKind.bits];rw[Nat.min_eq_left (by omega)]
theorem mg(x a:Nat)(hx:x<4294967296)(h0:0<a)(h:a<32)(s:AS):
  aj prog Γ 250 [wV x,.v (.int .i64 (-(a:Int)))] s (fun r s'=>r=wV (Sha.my x a)∧s'=s):=by
 refine aa func250 rfl ntmps250 results250 (by simp) ?_;refine jA ?_;refine jB (JT a h0 h) ?_;refine jB (Ai @mL (Ai (PX a h0 h) (PY x a hx h0 h))) ?_;refine jI ?_;exact⟨_,s,AV.aE.refl _,AS.le.refl s,rfl,rfl⟩
theorem ui(x a b c:Nat)(hx:x<4294967296)(ha0:0<a)(ha:a<32)(Tv:0<b)(hb:b<32)(NV:0<c)(hc:c<32)(s:AS):
  aj prog Γ 234 [wV x,.v (.int .i64 (a:Int)),.v (.int .i64 (b:Int)),.v (.int .i64 (c:Int))] s (fun r s'=>r=wV (Sha.Mx x a b c)∧s'=s):=by
 refine aa func234 rfl ntmps234 results234 (by simp) ?_;refine jA ?_;refine jS (ug a ha) fun K hK=>?_;refine ad (mg x a hx ha0 ha _) ?_;rintro r s1 ⟨rfl,rfl⟩;refine jN (ug b hb) ?_;refine ad (mg x b hx Tv hb _) ?_;rintro r s2 ⟨rfl,rfl⟩;refine jN (Ai (ug c hc) (pd _ _ (Sha.cp a hx) (Sha.cp b hx))) ?_;refine ad (mg x c hx NV hc _) ?_;rintro r s3 ⟨rfl,rfl⟩;refine jV (pd _ _ (Nat.xor_lt_two_pow (n:=32) (Sha.cp a hx) (Sha.cp b hx)) (Sha.cp c hx)) hK ?_;clear hK K;exact jJ
theorem ry(x a b c:Nat)(hx:x<4294967296)(ha0:0<a)(ha:a<32)(Tv:0<b)(hb:b<32)(NV:0<c)(hc:c<32)(s:AS):
  aj prog Γ 249 [wV x,.v (.int .i64 (a:Int)),.v (.int .i64 (b:Int)),.v (.int .i64 (c:Int))] s (fun r s'=>r=wV (Sha.C9 x a b c)∧s'=s):=by
 refine aa func249 rfl ntmps249 results249 (by simp) ?_;refine jA ?_;refine bj T.mixed [3,7] (by kernel_rfl) ?_;intro K hK;refine jN (ug a ha) ?_;refine ad (mg x a hx ha0 ha _) ?_;rintro r s1 ⟨rfl,rfl⟩;refine jN (ug b hb) ?_;refine ad (mg x b hx Tv hb _) ?_;rintro r s2 ⟨rfl,rfl⟩;refine jV (Ai (pd _ _ (Sha.cp a hx) (Sha.cp b hx)) (Ai @mL (Ai (vm x c hc) (pd _ _ (Nat.xor_lt_two_pow (n:=32) (Sha.cp a hx) (Sha.cp b hx)) (Nat.lt_of_le_of_lt (Nat.div_le_self x (2^c)) hx))))) hK ?_;clear hK K;exact jJ
theorem JU(a:Nat)(h:a<32):dr .i64 32 ((a:Nat):Int)=((32-a:Nat):Int):=by
 rw[bO (by omega)];omega
theorem JV(x a:Nat)(hx:x<4294967296)(h0:0<a)(h:a<32):F6 .u32 (eU .u32 (x:Int) ((a:Nat):Int)) (kC .u32 (x:Int) ((32-a:Nat):Int))=((Sha.my x a:Nat):Int):=by
 rw[MC x (32-a) (by omega),vm x a h,Zz _ _ (Nat.lt_of_le_of_lt (Nat.div_le_self _ _) hx) (Nat.mod_lt _ (by decide)),Sha.my]
theorem dG(x a:Nat)(hx:x<4294967296)(h0:0<a)(h:a<32)(s:AS):
  aj prog Γ 210 [wV x,.v (.int .i64 (a:Int))] s (fun r s'=>r=wV (Sha.my x a)∧s'=s):=by
 refine aa func210 rfl ntmps210 results210 (by simp) ?_;refine jA ?_;refine bj T.mixed [] (by kernel_rfl) ?_;intro K hK;refine jV (Ai @mL (Ai (JU a h) (JV x a hx h0 h))) hK ?_;clear hK K;refine jI ?_;exact⟨_,s,AV.aE.refl _,AS.le.refl s,rfl,rfl⟩
theorem Hn(s:AS):
  aj prog Γ 208 [] s (fun r s'=>r=.sl 1 64 (Sha.K.map wV) .no∧s'=s):=by
 refine aa func208 rfl ntmps208 results208 (by simp) ?_;refine jA ?_;refine jA ?_;refine jI ?_;exact⟨_,s,AV.Ou rfl,AS.le.refl s,rfl,rfl⟩
def row(c:List UInt8)(i:Nat):List AV:=(Sha.mq c i).map wV++List.replicate (64-i) (wV 0)
theorem row_zero(c:List UInt8):row c 0=List.replicate 64 (wV 0):=rfl
theorem Fm(c:List UInt8):row c 64=(Sha.mq c 64).map wV:=by simp[row]
theorem cj(c:List UInt8)(i:Nat)(h:i≤64):(row c i).length=64:=by
 simp[row,Sha.cH];omega
theorem drop_cons{α:Type}(l:List α)(j:Nat)(x:α)(h:l[j]? =some x):List.drop j l=x::List.drop (j+1) l:=by
 obtain⟨h1,h2⟩:=List.getElem?_eq_some_iff.1 h;rw[List.drop_eq_getElem_cons h1,h2]
theorem kx(c:List UInt8)(i j:Nat)(h:j<i):List.drop j (row c i)=wV ((Sha.mq c i).getD j 0)::List.drop (j+1) (row c i):=by
 apply drop_cons;have hl:j<(Sha.mq c i).length:=(by rw[Sha.cH];exact h);rw[row,List.getElem?_append_left (by simpa using hl),List.getElem?_map,List.getElem?_eq_getElem hl];simp[List.getD,List.getElem?_eq_getElem hl]
def rowP(c:List UInt8)(i v:Nat):List AV:=(row c i).set i (wV v)
theorem JW(c:List UInt8)(i:Nat)(h:i<64):rowP c i 0=row c i:=by
 unfold rowP;apply List.ext_getElem?;intro k;by_cases e:k=i
 ·subst e;rw[List.getElem?_set_self (by rw[cj c k (by omega)];exact h),row,List.getElem?_append_right (by simp[Sha.cH])];simp[Sha.cH,List.getElem?_replicate];omega
 ·rw[List.getElem?_set_ne (by omega)]
theorem JX(c:List UInt8)(i v:Nat)(h:i<64):List.drop i (rowP c i v)=wV v::List.drop (i+1) (rowP c i v):=by
 apply drop_cons;rw[rowP,List.getElem?_set_self (by rw[cj c i (by omega)];exact h)]
theorem ME(c:List UInt8)(i v u:Nat):(rowP c i v).set i (wV u)=rowP c i u:=by simp[rowP]
theorem MF(c:List UInt8)(i v:Nat)(h:i≤64):(rowP c i v).length=64:=by simp[rowP,cj c i h]
theorem xj(c:List UInt8)(i:Nat)(h:i<64):(row c i).set i (wV (Sha.word c (Sha.mq c i) i))=row c (i+1):=by
 apply List.ext_getElem?;intro k;by_cases e:k=i
 ·subst e;rw[List.getElem?_set_self (by rw[cj c k (by omega)];exact h),row,List.getElem?_append_left (by simp[Sha.cH])];simp[Sha.mq,Sha.cH,List.getElem?_append_right]
 ·rw[List.getElem?_set_ne (by omega),row,row];by_cases hk:k<i
  ·rw[List.getElem?_append_left (by simp[Sha.cH];omega),List.getElem?_append_left (by simp[Sha.cH];omega)];simp[Sha.mq,List.getElem?_append_left,Sha.cH,hk]
  ·rw[List.getElem?_append_right (by simp[Sha.cH];omega),List.getElem?_append_right (by simp[Sha.cH];omega)];simp only[List.length_map,Sha.cH,List.getElem?_replicate];by_cases h2:k<64
   ·rw[if_pos (by omega),if_pos (by omega)]
   ·rw[if_neg (by omega),if_neg (by omega)]
def rz(c:List UInt8)(i k:Nat):Nat:=((c.drop (4*i)).take k).foldl (fun x b=>x*256+b.toNat) 0
theorem yX(c:List UInt8)(i:Nat):rz c i 0=0:=rfl
theorem mi(c:List UInt8)(i k:Nat)(b:UInt8)(h:c[4*i+k]? =some b):rz c i (k+1)=rz c i k*256+b.toNat:=by
 unfold rz;have :(c.drop (4*i))[k]? =some b:=(by rw[List.getElem?_drop];exact h);obtain⟨h1,h2⟩:=List.getElem?_eq_some_iff.1 this;rw[List.take_succ_eq_append_getElem h1,List.foldl_append,h2];rfl
theorem MG(c:List UInt8)(i k:Nat)(hk:k≤3):rz c i k<16777216:=by
 have key:∀(l:List UInt8)(x:Nat),l.foldl (fun x b=>x*256+b.toNat) x<(x+1)*256^l.length:=by
  intro l;induction l with
  |nil=>intro x;simp
  |cons b l ih=>
   intro x;rw[List.foldl_cons];have h1:=ih (x*256+b.toNat);have hb:=b.toNat_lt;have h2:(x*256+b.toNat+1)*256^l.length≤((x+1)*256)*256^l.length:=Nat.mul_le_mul_right _ (by omega);rw[List.length_cons,Nat.pow_succ,Nat.mul_comm (256^l.length),←Nat.mul_assoc];omega
 have h:=key ((c.drop (4*i)).take k) 0;have hl:((c.drop (4*i)).take k).length≤3:=(by simp;omega);have :256^((c.drop (4*i)).take k).length≤256^3:=Nat.pow_le_pow_right (by decide) hl;unfold rz;omega
theorem Ho(c:List UInt8)(p:List Nat)(i:Nat)(hi:i<16)(hc:c.length=64):rz c i 4=Sha.word c p i:=by
 have g:∀j,j<4→c[4*i+j]? =some (c.getD (4*i+j) 0):=fun j hj=>by
  rw[List.getD_eq_getElem?_getD,List.getElem?_eq_getElem (by omega)];rfl
 rw[mi c i 3 _ (g 3 (by omega)),mi c i 2 _ (g 2 (by omega)),mi c i 1 _ (g 1 (by omega)),mi c i 0 _ (g 0 (by omega)),yX];unfold Sha.word;rw[if_pos hi];simp only[Sha.Hl,Nat.add_zero,Nat.zero_mul,Nat.zero_add]
theorem TR(x:Nat)(b:UInt8)(h:x<16777216):F6 .u32 (kC .u32 (x:Int) 8) (cE .u32 (b.toNat:Int))=((x*256+b.toNat:Nat):Int):=by
 have hb:=b.toNat_lt;rw[show(8:Int)=((8:Nat):Int) from rfl,MC x 8 (by decide),gN rfl];have e1:x*2^8%4294967296=x*256:=(by omega);have e2:b.toNat%2^IntKind.u32.bits=b.toNat:=(by simp only[IntKind.bits];omega);rw[e1,e2,Zz _ _ (by omega) (by omega)];have:=Nat.shiftLeft_add_eq_or_of_lt (b:=b.toNat) (i:=8) (by omega) x;rw[Nat.shiftLeft_eq] at this;rw[show x*256=x*2^8 from rfl,←this]
theorem sq:∀(xs cs:List AV)(off:Nat),off+xs.length≤cs.length→bp cs off xs=cs.take off++xs++cs.drop (off+xs.length)
 |[],cs,off,_=>by simp[bp]
 |x::xs,cs,off,h=>by
  simp only[List.length_cons] at h;rw[bp,sq xs _ _ (by simp;omega)];have e1:List.take (off+1) (cs.set off x)=List.take off cs++[x]:=by
   rw[List.take_succ_eq_append_getElem (by simp;omega)];simp[List.take_set_of_le]
  have e2:List.drop (off+1+xs.length) (cs.set off x)=List.drop (off+(xs.length+1)) cs:=by
   rw[List.drop_set_of_lt (by omega),show off+1+xs.length=off+(xs.length+1) from by omega]
  rw[e1,e2];simp
theorem bD(cs xs:List AV)(h:cs.length=xs.length):bp cs 0 xs=xs:=by
 rw[sq xs cs 0 (by omega)];simp[←h]
theorem z138:bo prog 246=some (List.replicate 64 (wV 0)):=by kernel_rfl
theorem TU(l:List Nat):(l.map wV).all AV.one=true:=by
 rw[List.all_eq_true];intro x hx;obtain⟨n,_,rfl⟩:=List.mem_map.1 hx;rfl
theorem q64:kX .i64 ((64:Nat):Int) 4=16:=by decide
theorem cS(i:Nat)(h:i<2^62):dQ .i64 (i:Int) 1=((i+1:Nat):Int):=by
 rw[ec (by omega)];rfl
theorem Fo(i:Nat)(h:i<64):ia .i64 4 (i:Int)=((4*i:Nat):Int):=by
 rw[dJ (by omega)];omega
theorem gg(a b:Nat)(h:a+b<9223372036854775808):dQ .i64 (a:Int) (b:Int)=((a+b:Nat):Int):=by
 rw[ec (by omega)];omega
theorem MH(a:Nat)(h:a<2^62):dQ .i64 (a:Int) 4=((a+4:Nat):Int):=gg a 4 (by omega)
theorem gP(a b:Nat)(hb:b≤a)(h:a<9223372036854775808):dr .i64 (a:Int) (b:Int)=((a-b:Nat):Int):=by
 rw[bO (by omega)];omega
theorem Da(c:List UInt8)(hc:c.length=64)(s:AS):
  aj prog Γ 233 [al c .any] s (fun r s'=>r=.agg ((Sha.mq c 64).map wV)∧s'=s):=by
 refine aa func233 rfl ntmps233 results233 (by simp) ?_;refine jS @z138 fun K hK=>?_;intro o2 qQ;refine hK _ _ ?_;clear hK K;refine jS @z138 fun K hK=>?_;intro o3 Au;refine hK _ _ ?_;clear hK K;obtain⟨qH,Av⟩:=AS.ff Au;clear Au;rw[←row_zero c];refine wK fun K hK=>?_;refine jA ?_;refine ag ?_;have gw:(al c .any:AV)=.sl 1 64 (c.map ae) .any:=(by rw[al,hc]);refine aD (fun E s1=>∃i:Nat,i≤64∧E 0=.sl 1 64 (c.map ae) .any∧E 2=.ptr o2 0∧E 3=.ptr o3 0∧E 7=.v (.int .i64 i)∧s1=(s.set o2 (row c 0)).set o3 (row c i))
  (fun E _=>match E 7 with |.v (.int _ i)=>64-i.toNat|_=>0) ?_ ?_
 ·exact⟨0,by omega,by simp[aB,bx,hc],by simp[aB],by simp[aB],by simp[aB],rfl⟩
 ·rintro E1 s1 ⟨i,hi,e0,e2,e3,e7,rfl⟩ -
  by_cases aY:i<64
  ·have fO:(i:Int)<64:=(by omega);have FZ:(i:Int)<((64:Nat):Int):=(by omega);refine jB (Ai @e7 (decide_eq_true fO)) ?_;refine wK fun K2 aU=>?_;refine jE ?_;refine ab ?_;refine aU _ _ ?_;clear aU K2;refine wK fun K3 bq=>?_;refine ag ?_;refine jB @e7 ?_;have Iz:∀E4:Env,E4 0=.sl 1 64 (c.map ae) .any→E4 2=.ptr o2 0→E4 3=.ptr o3 0→E4 7=.v (.int .i64 i)→K3 E4 ((s.set o2 (row c 0)).set o3 (row c (i+1))):=by
    intro E4 f0 f2 f3 f7;refine bq _ _ ?_;clear bq K3;refine jD (Ai @f7 (cS i (by omega))) ?_;refine⟨⟨i+1,by omega,f0,f2,f3,rfl,rfl⟩,?_⟩;simp only[e7,aB,↓reduceIte];omega
   clear bq;refine wK fun K4 dM=>?_;by_cases PZ:i<16
   ·have MI:(i:Int)<16:=(by omega);refine jB (Ai @e0 (Ai @e7 @q64)) ?_;refine wC fun X Y hX hY=>?_;simp only[UP,DF,Nc,↓reduceIte,DB];refine⟨fun _=>hX ?_,fun h=>absurd MI h⟩;clear hX hY X Y;have B2:(0:Int)≤((4*i:Nat):Int):=(by omega);have hlh:((4*i:Nat):Int)≤((4*i+4:Nat):Int):=(by omega);have xc7:((4*i+4:Nat):Int)≤((64:Nat):Int):=(by omega);refine wK fun K5 ju=>?_;refine jB (Ai @e0 (Ai @e7 (Ai (Fo i aY) (Ai (MH (4*i) (by omega)) (Ai @B2 (Ai @hlh (Ai @xc7 @Nat.add_sub_cancel_left))))))) ?_;refine ag ?_;obtain⟨Xs,hXs⟩:∃Xs,Xs=List.map ae (List.drop (4*i) (List.take (4*i+4) c)):=⟨_,rfl⟩;have hXk:∀k,k<4→List.take 1 (List.drop k Xs)=[ae (c.getD (4*i+k) 0)]:=by
     intro k hk;have :Xs[k]? =some (ae (c.getD (4*i+k) 0)):=by
      rw[hXs,List.getElem?_map,List.getElem?_drop,List.getElem?_take,if_pos (by omega),List.getElem?_eq_getElem (by omega)];simp only[Option.map_some,List.getD,List.getElem?_eq_getElem (show 4*i+k<c.length by omega),Option.getD_some]
     rw[drop_cons _ _ _ this];rfl
    rw[←hXs];refine aD (fun E s2=>∃k:Nat,k≤4∧E 0=.sl 1 64 (c.map ae) .any∧E 2=.ptr o2 0∧E 3=.ptr o3 0∧E 7=.v (.int .i64 i)∧E 4=.v (.int .i64 i)∧E 21=.sl 1 4 Xs .any∧E 22=.v (.int .i64 4)∧E 23=.v (.int .i64 k)∧s2=(s.set o2 (row c 0)).set o3 (rowP c i (rz c i k)))
     (fun E _=>match E 23 with |.v (.int _ k)=>4-k.toNat|_=>0) ?_ ?_
    ·refine⟨0,by omega,e0,e2,e3,e7,rfl,rfl,rfl,rfl,by rw[yX,JW c i aY]⟩
    ·rintro E2 s2 ⟨k,hk,g0,g2,g3,g7,g4,g21,g22,g23,rfl⟩ -
     by_cases tF:k<4
     ·have Dw:(k:Int)<4:=(by omega);have N2:(0:Int)≤(k:Int):=(by omega);have VA:(k:Int)<((4:Nat):Int):=(by omega);have fD:(0:Int)≤(i:Int):=(by omega);refine jB (Ai @g23 (Ai @g22 (decide_eq_true Dw))) ?_;refine wK fun K6 kU=>?_;refine jE ?_;refine ab ?_;refine kU _ _ ?_;clear kU K6;refine wK fun K7 Fe=>?_;refine ag ?_;obtain⟨b,hb⟩:∃b,b=c.getD (4*i+k) 0:=⟨_,rfl⟩;have P0:c[4*i+k]? =some b:=by
       rw[hb,List.getD_eq_getElem?_getD,List.getElem?_eq_getElem (by omega)];rfl
      have ZB:=hXk k tF;rw[←hb] at ZB;refine jB (Ai @g21 (Ai @g23 (Ai @N2 (Ai @Dw (Ai @VA @ZB))))) ?_;obtain⟨v,hv⟩:∃v,v=rz c i k:=⟨_,rfl⟩;have hv3:v<16777216:=(by rw[hv];exact MG c i k (by omega));rw[←hv];have hd:=JX c i v aY;have cz:(rowP c i v).set i (wV (v*256+b.toNat))=rowP c i (rz c i (k+1)):=(by rw[ME,mi c i k b P0,hv]);have hlen:=MF c i v hi;obtain⟨R,hR⟩:∃R,R=rowP c i v:=⟨_,rfl⟩;rw[←hR] at hd cz hlen⊢;refine wE fun K hK=>?_;simp only[↓DN,Qa,Qb,Qc,Qd,Qe,Qf,Qg,Qh,reduceCtorEq,↓reduceIte,Na,Nb,Nc,Nk,Nf,Ng,Nh,Za,Zb,Zc,TT,g3,g4,fD,fO,FZ,hd,ae,TR v b hv3,cz,hlen,aY];refine⟨by omega,hK _ _ ?_⟩;clear hK K;simp only[aq,aA,if_true,if_false];refine Fe _ _ ?_;clear Fe K7;refine jD (Ai @g23 (cS k (by omega))) ?_;refine⟨⟨k+1,by omega,g0,g2,g3,g7,g4,g21,g22,rfl,rfl⟩,?_⟩;simp only[g23,aB,↓reduceIte];omega
     ·have Dw:¬(k:Int)<4:=(by omega);obtain rfl:k=4:=(by omega);refine jB (Ai @g23 (Ai @g22 (decide_eq_false Dw))) ?_;refine wK fun K6 kU=>?_;refine jF ?_;refine aC ?_;simp only[aA,aq,if_true];clear kU K6;refine ju _ _ ?_;clear ju K5;refine aC ?_;simp only[aA,aq,if_true];rw[Ho c (Sha.mq c i) i PZ hc];have :rowP c i (Sha.word c (Sha.mq c i) i)=row c (i+1):=xj c i aY;rw[this];exact Iz _ g0 g2 g3 g7
   ·have MI:¬(i:Int)<16:=(by omega);have fD:(0:Int)≤(i:Int):=(by omega);refine jB (Ai @e0 (Ai @e7 @q64)) ?_;refine wC fun X Y hX hY=>?_;simp only[UP,DF,Nc,↓reduceIte,DB];refine⟨fun h=>absurd h MI,fun _=>hY ?_⟩;clear hX hY X Y;refine ab ?_;refine dM _ _ ?_;clear dM K4;have n2:(0:Int)≤((i-2:Nat):Int):=(by omega);have n7:(0:Int)≤((i-7:Nat):Int):=(by omega);have n15:(0:Int)≤((i-15:Nat):Int):=(by omega);have n16:(0:Int)≤((i-16:Nat):Int):=(by omega);have m2:((i-2:Nat):Int)<((64:Nat):Int):=(by omega);have m7:((i-7:Nat):Int)<((64:Nat):Int):=(by omega);have RW:((i-15:Nat):Int)<((64:Nat):Int):=(by omega);have P1:((i-16:Nat):Int)<((64:Nat):Int):=(by omega);have s2:dr .i64 (i:Int) 2=((i-2:Nat):Int):=gP i 2 (by omega) (by omega);have s7:dr .i64 (i:Int) 7=((i-7:Nat):Int):=gP i 7 (by omega) (by omega);have UX:dr .i64 (i:Int) 15=((i-15:Nat):Int):=gP i 15 (by omega) (by omega);have Iv:dr .i64 (i:Int) 16=((i-16:Nat):Int):=gP i 16 (by omega) (by omega);have d2:=kx c i (i-2) (by omega);have d7:=kx c i (i-7) (by omega);have d15:=kx c i (i-15) (by omega);have d16:=kx c i (i-16) (by omega);have hw:Sha.word c (Sha.mq c i) i=Sha.ew (Sha.ew (Sha.ew (Sha.C9 ((Sha.mq c i).getD (i-2) 0) 17 19 10) ((Sha.mq c i).getD (i-7) 0)) (Sha.C9 ((Sha.mq c i).getD (i-15) 0) 7 18 3)) ((Sha.mq c i).getD (i-16) 0):=(by rw[Sha.word,if_neg PZ]);have cz:=xj c i aY;rw[hw] at cz;have hlen:=cj c i hi;have l2:=Sha.mI c i (i-2);have P2:=Sha.mI c i (i-15);generalize (Sha.mq c i).getD (i-2) 0=x2 at *
    generalize (Sha.mq c i).getD (i-7) 0=x7 at *
    generalize (Sha.mq c i).getD (i-15) 0=x15 at *
    generalize (Sha.mq c i).getD (i-16) 0=x16 at *
    obtain⟨R,hR⟩:∃R,R=row c i:=⟨_,rfl⟩;rw[←hR] at d2 d7 d15 d16 cz hlen⊢;refine cV T.mixed [(o3,R)] [5,15] [4,9,14,20] [23] (by kernel_rfl) (by simp only[aH,aL,and_true];simp[AS.set,aB]) ?_;intro K hK;simp only[↓bt,↓a8,dx,dt,aR,aV,aH,aL,List.any_cons,List.any_nil,List.contains_cons,List.contains_nil,Nat.reduceBEq,Bool.or_false,Bool.or_true,Bool.or_self,Bool.false_or,↓DN,Qa,Qb,Qc,Qd,Qe,Qf,Qg,Qh,reduceCtorEq,↓reduceIte,Na,Nb,Nc,Nk,Nf,Ng,Nh,Za,Zb,Zc,TT,e3,e7,fD,FZ,n2,n7,n15,n16,m2,m7,RW,P1,s2,s7,UX,Iv,d2,d7,d15,d16,qH];refine ad (ry x2 17 19 10 l2 (by omega) (by omega) (by omega) (by omega) (by omega) (by omega) _) ?_;rintro r sa ⟨rfl,rfl⟩;simp only[↓cx,↓bW,bE,↓bt,↓a8,dx,dt,aR,aV,aH,aL,List.any_cons,List.any_nil,DX,Nat.reduceBEq,↓DN,Qa,Qb,Qc,Qd,Qe,Qf,Qg,Qh,reduceCtorEq,↓reduceIte,Na,Nb,Nc,Nk,Nf,Ng,Nh,Za,Zb,Zc,TT,e3,e7,fD,FZ,n2,n7,n15,n16,m2,m7,RW,P1,s2,s7,UX,Iv,d2,d7,d15,d16,qH,uh];refine ad (ry x15 7 18 3 P2 (by omega) (by omega) (by omega) (by omega) (by omega) (by omega) _) ?_;rintro r sb ⟨rfl,rfl⟩;simp only[↓cx,↓bW,bE,↓bt,↓a8,dx,dt,aR,aV,aH,aL,List.any_cons,List.any_nil,DX,Nat.reduceBEq,↓DN,Qa,Qb,Qc,Qd,Qe,Qf,Qg,Qh,reduceCtorEq,↓reduceIte,Na,Nb,Nc,Nk,Nf,Ng,Nh,Za,Zb,Zc,TT,e3,e7,fD,FZ,n2,n7,n15,n16,m2,m7,RW,P1,s2,s7,UX,Iv,d2,d7,d15,d16,qH,uh,cz,hlen];refine⟨by omega,hK _ _ ?_⟩;clear hK K;simp only[aq,aA,if_true,if_false];exact Iz _ e0 e2 e3 e7
  ·have fO:¬(i:Int)<64:=(by omega);obtain rfl:i=64:=(by omega);refine jB (Ai @e7 (decide_eq_false fO)) ?_;refine wK fun K2 aU=>?_;refine jF ?_;refine aC ?_;simp only[aA,aq,if_true];clear aU K2;refine hK _ _ ?_;clear hK K;rw[Fm c];have uX:((Sha.mq c 64).map wV).length=64:=(by simp[Sha.cH]);have bS:=TU (Sha.mq c 64);have eo:List.take 64 ((Sha.mq c 64).map wV)=(Sha.mq c 64).map wV:=List.take_of_length_le (by omega);obtain⟨X,hX⟩:∃X,X=(Sha.mq c 64).map wV:=⟨_,rfl⟩;rw[←hX] at uX bS eo⊢;refine jS (Ai @e2 (Ai @e3 (Ai @uX (Ai @eo (Ai @bS (Ai @qH @qH.symm)))))) fun K hK=>?_;have FX:(row c 0).length=64:=cj c 0 (by omega);rw[bD (row c 0) X (by omega)];refine⟨by omega,hK _ _ ?_⟩;clear hK K;refine a7 ?_;refine eQ (v:=.agg X) (o:=o2) (off:=0) e2 (AS.af _ _ _) (by rw[T.S7];decide) (by simp only[↓DN,Qa,Qb,Qc,Qd,Qe,Qf,Qg,Qh,reduceCtorEq,↓reduceIte,Na,Nb,Nc,Nk,Nf,Ng,Nh,Za,Zb,Zc,TT,uX,eo]) ?_;exact⟨_,s,AV.aE.refl _,AS.aF (AS.aF (AS.aF (AS.le.refl s) qQ _) Av _) qQ _,rfl,rfl⟩
abbrev eA(t:Sha.St):List AV:=[wV t.a,wV t.b,wV t.c,wV t.d,wV t.e,wV t.f,wV t.g,wV t.h]
theorem c8:((8:Nat):Int)=8:=rfl
theorem yY(l:List Nat)(i:Nat)(h:i<l.length):(l.map wV)[i]? =some (wV (l.getD i 0)):=by
 rw[List.getElem?_map,List.getElem?_eq_getElem h];simp[List.getD,List.getElem?_eq_getElem h]
def yZ(t u:Sha.St)(i:Nat):List AV:=(eA (t.add u)).take i++(eA t).drop i
theorem BF(t u:Sha.St):yZ t u 0=eA t:=rfl
theorem BG(t u:Sha.St):yZ t u 8=eA (t.add u):=rfl
theorem Fp(t u:Sha.St)(i:Nat)(h:i≤8):(yZ t u i).length=8:=by
 simp[yZ];omega
theorem at8{i:Nat}(h:i<8):i=0∨i=1∨i=2∨i=3∨i=4∨i=5∨i=6∨i=7:=by omega
theorem BH(t u:Sha.St)(i:Nat)(h:i<8):List.drop i (yZ t u i)=wV (t.list.getD i 0)::(eA t).drop (i+1):=by
 rcases at8 h with rfl|rfl|rfl|rfl|rfl|rfl|rfl|rfl<;>rfl
theorem Fq(t u:Sha.St)(i:Nat)(h:i<8):(yZ t u i).set i (wV (Sha.ew (t.list.getD i 0) (u.list.getD i 0)))=yZ t u (i+1):=by
 rcases at8 h with rfl|rfl|rfl|rfl|rfl|rfl|rfl|rfl<;>rfl
theorem y7(u:Sha.St)(i:Nat)(h:i<8):List.drop i (eA u)=wV (u.list.getD i 0)::(eA u).drop (i+1):=by
 rcases at8 h with rfl|rfl|rfl|rfl|rfl|rfl|rfl|rfl<;>rfl
theorem IA(u:Sha.St):(eA u).all AV.one=true:=rfl
theorem JY(hG:Γ 1=Sha.K.map wV)(t:Sha.St)(ht:t.ok)(c:List UInt8)(hc:c.length=64)(s:AS):
  aj prog Γ 200 [.agg (eA t),al c .any] s (fun r s'=>r=.agg (eA (Sha.mix t c))∧s'=s):=by
 refine aa func200 rfl ntmps200 results200 (by simp) ?_;refine jQ fun K hK=>?_;intro o2 qQ o4 Db;refine hK _ _ ?_;clear hK K;obtain⟨JZ,vn⟩:=AS.ff Db;clear Db;refine jS (Ai @JZ @JZ.symm) fun K hK=>?_;intro o5 Fs;have Ia:o5≠o4:=(by intro e;simp[e] at Fs);have P3:o5≠o2:=(by intro e;subst e;simp[Ia] at Fs);have Hp:s.aw o5=none:=(by simpa[Ia,P3] using Fs);clear Fs;refine hK _ _ ?_;clear hK K;obtain⟨Z,hZ⟩:∃Z:List AV,Z=[wV 0,wV 0,wV 0,wV 0,wV 0,wV 0,wV 0,wV 0]:=⟨_,rfl⟩;have hZl:Z.length=8:=(by rw[hZ];rfl);rw[show([AV.v (.int .u32 0),AV.v (.int .u32 0),AV.v (.int .u32 0),AV.v (.int .u32 0),AV.v (.int .u32 0),AV.v (.int .u32 0),AV.v (.int .u32 0),AV.v (.int .u32 0)]:List AV)=Z from hZ.symm];refine wK fun K hK=>?_;refine jQ fun K hK=>?_;rw[show AV.sl 1 c.length (List.map ae c) .any=al c .any from rfl];refine ad (Da c hc _) ?_;rintro r sa ⟨rfl,rfl⟩;refine jR hK ?_;clear hK K;obtain⟨W,hW⟩:∃W,W=Sha.mq c 64:=⟨_,rfl⟩;have LA:W.length=64:=(by rw[hW,Sha.cH]);rw[←hW];refine ag ?_;refine aD (fun E s1=>∃i:Nat,i≤64∧E 2=.ptr o2 0∧E 4=.ptr o4 0∧E 5=.ptr o5 0∧E 15=.agg (W.map wV)∧E 16=.v (.int .i64 i)∧s1=((s.set o2 (eA t)).set o4 Z).set o5 (eA (Sha.rounds W t i)))
  (fun E _=>match E 16 with |.v (.int _ i)=>64-i.toNat|_=>0) ?_ ?_
 ·exact⟨0,by omega,by simp[aB],by simp[aB],by simp[aB],by simp[aB],by simp[aB],rfl⟩
 ·rintro E1 s1 ⟨i,hi,e2,e4,e5,Ob,IB,rfl⟩ -
  by_cases aY:i<64
  ·have fO:(i:Int)<64:=(by omega);have FZ:(i:Int)<((64:Nat):Int):=(by omega);have fD:(0:Int)≤(i:Int):=(by omega);refine jB (Ai @IB (decide_eq_true fO)) ?_;refine wK fun K2 aU=>?_;refine jE ?_;refine ab ?_;refine aU _ _ ?_;clear aU K2;refine wK fun K3 bq=>?_;refine ag ?_;have hwi:=yY W i (by omega);have hki:=yY Sha.K i (by rw[show Sha.K.length=64 from rfl];omega);have gS:=Sha.vl (w:=W) ht i;have RC:Sha.rounds W t (i+1)=(Sha.rounds W t i).step (Sha.K.getD i 0) (W.getD i 0):=rfl;generalize W.getD i 0=wi at *
   generalize Sha.K.getD i 0=ki at *
   generalize hu:Sha.rounds W t i=u at *
   have DG:List.drop i (Sha.K.map wV)=wV ki::List.drop (i+1) (Sha.K.map wV):=drop_cons _ _ _ hki;refine jB (Ai @Ob (Ai @IB (Ai @fD (Ai @fO (Ai @FZ @hwi))))) ?_;refine ef T.mixed [(o5,eA u)] [] [1,3] [] (by kernel_rfl) (by simp only[aH,aL,and_true];simp[AS.set,aB]) ?_;intro K hK;simp only[↓bt,↓a8,dx,dt,aR,aV,aH,aL,List.any_cons,List.any_nil,List.contains_cons,List.contains_nil,Nat.reduceBEq,Bool.or_false,Bool.or_true,Bool.or_self,Bool.false_or,↓DN,Qa,Qb,Qc,Qd,Qe,Qf,Qg,Qh,reduceCtorEq,↓reduceIte,Na,Nb,Nc,Nk,Nf,Ng,Nh,Za,Zb,Zc,TT,e5,c8];refine hK _ _ ?_;clear hK K;refine ef T.mixed [(o5,eA u)] [3] [1,7,12] [] (by kernel_rfl) (by simp only[aH,aL,and_true];simp[AS.set,aB]) ?_;intro K hK;simp only[↓bt,↓a8,dx,dt,aR,aV,aH,aL,List.any_cons,List.any_nil,List.contains_cons,List.contains_nil,Nat.reduceBEq,Bool.or_false,Bool.or_true,Bool.or_self,Bool.false_or,↓DN,Qa,Qb,Qc,Qd,Qe,Qf,Qg,Qh,reduceCtorEq,↓reduceIte,Na,Nb,Nc,Nk,Nf,Ng,Nh,Za,Zb,Zc,TT,e5,IB,c8];have Hq:∀{a b:Nat},a<4294967296→b<4294967296→a &&& b<4294967296:=fun{a b}ha hb=>Nat.lt_of_le_of_lt Nat.and_le_left ha;have ZC:∀{a b:Nat},a<4294967296→b<4294967296→a ^^^ b<4294967296:=fun{a b}ha hb=>Nat.xor_lt_two_pow (n:=32) ha hb;have hn:4294967295-u.e<4294967296:=(by omega);refine ad (ui u.e 6 11 25 gS.e (by omega) (by omega) (by omega) (by omega) (by omega) (by omega) _) ?_;rintro r sb ⟨rfl,rfl⟩;simp only[↓cx,↓bW,bE,↓bt,↓a8,dx,dt,aR,aV,aH,aL,List.any_cons,List.any_nil,DX,Nat.reduceBEq,↓DN,Qa,Qb,Qc,Qd,Qe,Qf,Qg,Qh,reduceCtorEq,↓reduceIte,Na,Nb,Nc,Nk,Nf,Ng,Nh,Za,Zb,Zc,TT,e5,IB,c8,hG,DG,fD,FZ,uh,As u.e u.f gS.e gS.f,ZA u.e gS.e,As (4294967295-u.e) u.g hn gS.g,pd (u.e &&& u.f) ((4294967295-u.e) &&& u.g) (Hq gS.e gS.f) (Hq hn gS.g)];refine hK _ _ ?_;clear hK K;refine ef T.mixed [(o5,eA u)] [1] [4,8,12,14] [] (by kernel_rfl) (by simp only[aH,aL,and_true];simp[AS.set,aB]) ?_;intro K hK;simp only[↓bt,↓a8,dx,dt,aR,aV,aH,aL,List.any_cons,List.any_nil,List.contains_cons,List.contains_nil,Nat.reduceBEq,Bool.or_false,Bool.or_true,Bool.or_self,Bool.false_or,↓DN,Qa,Qb,Qc,Qd,Qe,Qf,Qg,Qh,reduceCtorEq,↓reduceIte,Na,Nb,Nc,Nk,Nf,Ng,Nh,Za,Zb,Zc,TT,e5,c8];refine ad (ui u.a 2 13 22 gS.a (by omega) (by omega) (by omega) (by omega) (by omega) (by omega) _) ?_;rintro r sb ⟨rfl,rfl⟩;simp only[↓cx,↓bW,bE,↓bt,↓a8,dx,dt,aR,aV,aH,aL,List.any_cons,List.any_nil,DX,Nat.reduceBEq,↓DN,Qa,Qb,Qc,Qd,Qe,Qf,Qg,Qh,reduceCtorEq,↓reduceIte,Na,Nb,Nc,Nk,Nf,Ng,Nh,Za,Zb,Zc,TT,e5,c8,uh,As u.a u.b gS.a gS.b,As u.a u.c gS.a gS.c,As u.b u.c gS.b gS.c,pd (u.a &&& u.b) (u.a &&& u.c) (Hq gS.a gS.b) (Hq gS.a gS.c),pd ((u.a &&& u.b) ^^^ (u.a &&& u.c)) (u.b &&& u.c) (ZC (Hq gS.a gS.b) (Hq gS.a gS.c)) (Hq gS.b gS.c)];refine hK _ _ ?_;clear hK K;refine jD (Ai @e5 (Ai @c8 @uh)) ?_;simp only[aq,aA,if_true,if_false];refine bq _ _ ?_;clear bq K3;refine jD (Ai @IB (cS i (by omega))) ?_;refine⟨⟨i+1,by omega,e2,e4,e5,Ob,rfl,?_⟩,?_⟩
   ·rw[RC];simp only[eA,Sha.St.step,Sha.t1,Sha.t2]
   ·simp only[IB,aB,↓reduceIte];omega
  ·have fO:¬(i:Int)<64:=(by omega);obtain rfl:i=64:=(by omega);refine jB (Ai @IB (decide_eq_false fO)) ?_;refine wK fun K2 aU=>?_;refine jF ?_;refine aC ?_;simp only[aA,aq,if_true];clear aU K2;refine hK _ _ ?_;clear hK K;have P4:Sha.mix t c=t.add (Sha.rounds W t 64):=(by rw[hW];rfl);rw[P4];generalize Sha.rounds W t 64=u;rw[←BF t u];refine wK fun K hK=>?_;refine jA ?_;refine ag ?_;refine aD (fun E s1=>∃i:Nat,i≤8∧E 2=.ptr o2 0∧E 4=.ptr o4 0∧E 5=.ptr o5 0∧E 83=.v (.int .i64 i)∧s1.aw o2=some (yZ t u i)∧s1.aw o5=some (eA u)∧s1.aw o4=some Z∧s.le s1)
    (fun E _=>match E 83 with |.v (.int _ i)=>8-i.toNat|_=>0) ?_ ?_
   ·refine⟨0,by omega,e2,e4,e5,rfl,?_,AS.af _ _ _,?_,AS.aF (AS.aF (AS.aF (AS.le.refl s) qQ _) vn _) Hp _⟩
    ·rw[AS.ao _ P3.symm,AS.ao _ JZ.symm,AS.af]
    ·rw[AS.ao _ Ia.symm,AS.af]
   ·rintro E2 s2 ⟨i,hi,g2,g4,g5,U0,j2,j5,j4,hle⟩ -
    by_cases aY:i<8
    ·have fO:(i:Int)<8:=(by omega);have fD:(0:Int)≤(i:Int):=(by omega);refine jB (Ai @U0 (decide_eq_true fO)) ?_;refine wK fun K2 aU=>?_;refine jE ?_;refine ab ?_;refine aU _ _ ?_;clear aU K2;refine wK fun K3 bq=>?_;refine ag ?_;refine jB @U0 ?_;have d2:=BH t u i aY;have d5:=y7 u i aY;have cz:=Fq t u i aY;have hlen:=Fp t u i hi;generalize t.list.getD i 0=x at *
     generalize u.list.getD i 0=y at *
     obtain⟨X,hX⟩:∃X,X=yZ t u i:=⟨_,rfl⟩;rw[←hX] at d2 cz hlen j2;obtain⟨Y,hY⟩:∃Y,Y=eA u:=⟨_,rfl⟩;rw[←hY] at d5 j5;refine cV T.mixed [(o2,X),(o5,Y)] [] [2,5] [8] (by kernel_rfl) (by simp only[aH,aL,and_true];simp[AS.set,aB,j2,j5]) ?_;intro K hK;simp only[↓bt,↓a8,dx,dt,aR,aV,aH,aL,List.any_cons,List.any_nil,List.contains_cons,List.contains_nil,Nat.reduceBEq,Bool.or_false,Bool.or_true,Bool.or_self,Bool.false_or,↓DN,Qa,Qb,Qc,Qd,Qe,Qf,Qg,Qh,reduceCtorEq,↓reduceIte,Na,Nb,Nc,Nk,Nf,Ng,Nh,Za,Zb,Zc,TT,g2,g5,U0,c8,fD,fO,d2,d5,P3,P3.symm,j2,j5,uh,cz,hlen];refine⟨by omega,hK _ _ ?_⟩;clear hK K;simp only[aq,aA,if_true,if_false];refine bq _ _ ?_;clear bq K3;refine jD (Ai @U0 (cS i (by omega))) ?_;refine⟨⟨i+1,by omega,g2,g4,g5,rfl,AS.af _ _ _,by rw[AS.ao _ P3,j5,hY],by rw[AS.ao _ JZ];exact j4,AS.aF hle qQ _⟩,?_⟩;simp only[U0,aB,↓reduceIte];omega
    ·have fO:¬(i:Int)<8:=(by omega);obtain rfl:i=8:=(by omega);refine jB (Ai @U0 (decide_eq_false fO)) ?_;refine wK fun K2 aU=>?_;refine jF ?_;refine aC ?_;simp only[aA,aq,if_true];clear aU K2;refine hK _ _ ?_;clear hK K;rw[BG] at j2;have bS:=IA (t.add u);have hlen:(eA (t.add u)).length=8:=rfl;have eo:List.take 8 (eA (t.add u))=eA (t.add u):=rfl;obtain⟨X,hX⟩:∃X,X=eA (t.add u):=⟨_,rfl⟩;rw[←hX] at j2 bS hlen eo⊢;refine jS (Ai @g2 (Ai @g4 (Ai @j2 (Ai @j4 (Ai @hlen (Ai @eo @bS)))))) fun K hK=>?_;rw[bD Z X (by omega)];refine⟨by omega,hK _ _ ?_⟩;clear hK K;refine a7 ?_;refine eQ (v:=.agg X) (o:=o4) (off:=0) g4 (AS.af _ _ _) (by rw[T.S6];decide) (by simp only[↓DN,Qa,Qb,Qc,Qd,Qe,Qf,Qg,Qh,reduceCtorEq,↓reduceIte,Na,Nb,Nc,Nk,Nf,Ng,Nh,Za,Zb,Zc,TT,hlen,eo]) ?_;exact⟨_,s,AV.aE.refl _,AS.aF hle vn _,rfl,rfl⟩
end Go.Proofs.YtbiefppedlodiaaGreatDoor
