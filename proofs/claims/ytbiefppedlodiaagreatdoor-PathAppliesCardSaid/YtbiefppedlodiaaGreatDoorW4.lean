/- Contracts of functions, each walked once; each theorem states its conditions. -/
import Derived.Test.YtbiefppedlodiaaGreatDoorAMp6
import Derived.Test.YtbiefppedlodiaaGreatDoorW1
import Derived.Test.YtbiefppedlodiaaGreatDoorW3
import Derived.Test.YtbiefppedlodiaaGreatDoorW2
import Derived.Test.YtbiefppedlodiaaGreatDoorAMp5
set_option linter.unusedSimpArgs false
set_option linter.unusedVariables false
open Nat renaming reduceLT → Na, reduceLeDiff → Nb, reduceEqDiff → Nc, reduceAdd → Nk, reduceMul → Nf, reducePow → Ng, reduceSub → Nh, reduceBEq → Nz
open Int renaming reduceLT → Za, reduceLE → Zb, reduceToNat → Zc
open And renaming intro → Ai
open Go.AM renaming ashift → Qa, aconv → Qb, aindexAddr → Qc, aindex → Qd, aslice → Qe, abuiltin → Qf, awp_reg_seq → wS, awp_reg_end → wE, awp_seq_k → wK, awp_cond_k → wC
open Go.AM.AV renaming cells → Qg, one → Qh
set_option maxRecDepth 100000
set_option maxHeartbeats 8000000
namespace Go.Proofs.YtbiefppedlodiaaGreatDoor
open Go Go.AM Go.Proofs Tryz
variable{Γ:Nat→List AV}
theorem yL{t:List af}{name:List UInt8}{a:Nat}:decide (0≤og t name (a+1))=false↔∀j,j<gJ t→a<j→¬(eg t (j:Int)∧(nd t (2*j)).name=name):=by
 have h:=uT (fun(j:Nat)=>decide (eg t (j:Int)∧(nd t (2*j)).name=name)) (gJ t-(a+1)) (a+1);constructor
 ·intro h1 j h2 h3 h4;have :decide (0≤og t name (a+1))=true:=h.2 ⟨j,by omega,by omega,decide_eq_true h4⟩;rw[h1] at this;cases this
 ·intro h1;cases hd:decide (0≤og t name (a+1)) with
  |false=>rfl
  |true=>
   obtain⟨j,h2,h3,h4⟩:=h.1 hd;exact absurd (of_decide_eq_true h4) (h1 j (by omega) (by omega))
theorem jk(hG:Γ 3=fu.map pn)(t:List af)(ht:dE t)(s:AS):aj prog Γ 101 [aW t] s (fun r s'=>r=.v (.bool (decide (bd t)))∧s'=s):=by
 refine aa func101 rfl ntmps101 results101 (by simp) ?_;have me:=ht.1;have oo:=fun s=>om (Γ:=Γ) t me s;have hmc:=fun i s=>lg (Γ:=Γ) t me i s;have RK:=fun i(h:i<t.length)s=>CK (Γ:=Γ) hG t ht i h s;have BQ:=fun name a(h:a≤2^60)s=>Aj (Γ:=Γ) t me name a h s;have Df:=fun a k h s=>Ah (Γ:=Γ) t me a k h s;have cx:=fun i(h:i<t.length)=>cK (t:=t) h;have X4:=Ct t;have L5:aM t≠0→t.length=2*aM t-1:=fun h=>(bU.resolve_left h).2;have Pf:aM t=0→decide (bd t)=false:=fun h=>decide_eq_false fun k=>k.1 h;have Pg:∀i,i<t.length→¬gi t i→decide (bd t)=false:=fun i h1 h2=>decide_eq_false fun k=>h2 (k.2.1 i h1);have qz:aM t≠0→(∀i,i<t.length→gi t i)→decide (bd t)=(((aM t:Int)==1)||decide ((0:Int)<(fS (eg t) (aM t/2) (aM t-aM t/2):Int))):=by
  intro h1 h2;rw[Bool.eq_iff_iff,decide_eq_true_iff,Bool.or_eq_true,beq_iff_eq,decide_eq_true_iff];constructor
  ·rintro⟨_,_,h3⟩;exact h3.imp (fun q=>by omega) (fun q=>by omega)
  ·intro h3;exact⟨h1,h2,h3.imp (fun q=>by omega) (fun q=>by omega)⟩
 unfold aW at *
 generalize aK af.cells t=X at *
 generalize decide (bd t)=Pb at *
 refine jA ?_;refine jK (oo _) ?_;rintro s1 rfl;refine wK fun K hK=>?_;refine jA ?_;refine ah ?_;refine aD (fun E s2=>∃i:Nat,i≤t.length∧(0<i→aM t≠0)∧(∀j,j<i→gi t j)∧E 9=.v (.int .i64 i)∧E 8=.v (.int .i64 t.length)∧E 3=.v (.int .i64 (aM t))∧E 0=.sl 5 t.length X .any∧s2=s1)
  (fun E _=>match E 9 with |.v (.int _ i)=>t.length-i.toNat|_=>0) ?_ ?_
 ·exact⟨0,Nat.zero_le _,fun h=>absurd h (Nat.lt_irrefl _),fun j h=>absurd h (Nat.not_lt_zero _),rfl,rfl,rfl,rfl,rfl⟩
 ·rintro E1 s2 ⟨i,hi,hn0,bT,g9,g8,g3,g0,rfl⟩ -
  by_cases aY:i<t.length
  ·refine jB (Ai @g9 (Ai @g8 (Ai @aq (decide_eq_true aY)))) ?_;refine wK fun K2 aX=>?_;refine jE ?_;refine ab ?_;refine aX _ _ ?_;clear aX K2;refine wK fun K3 br=>?_;refine ah ?_;refine jB @g9 ?_;by_cases hz:aM t=0
   ·refine jB (Ai @g3 (Ox hz)) ?_;refine jE ?_;refine jA ?_;refine jI ?_;rw[Pf hz];exact jW ⟨rfl,rfl⟩
   ·have eO:gi t i↔qa t i∧(i%2=0→eg t ((i/2:Nat):Int)→decide (0≤og t (nd t i).name (i/2+1))=false):=by
     unfold gi;rw[yL]
    have hlen:=L5 hz;have iK:=cx i aY;have YK:=fun s=>BQ (nd t i).name (i/2+1) (by omega) s;generalize hNI:og t (nd t i).name (i/2+1)=NI at *
    generalize nd t i=N at *
    obtain⟨nk,nm,ny,jj,nu⟩:=N;unfold af.cells at iK;simp only at YK;have cl:(0:Int)≤(i:Int):=(by omega);have qS:iG (i:Int) 2=((i%2:Nat):Int):=lH i 2;have I9:kK .i64 (i:Int) 2=((i/2:Nat):Int):=dv i (by omega);have hq3:ec .i64 ((i/2:Nat):Int) 1=((i/2+1:Nat):Int):=bp _ (by omega);have bG:gi t i→∀(E:Env),E 9=.v (.int .i64 i)→E 8=.v (.int .i64 t.length)→E 3=.v (.int .i64 (aM t))→E 0=.sl 5 t.length X .any→K3 E s2:=by
     intro hg E f9 f8 f3 f0;refine br _ _ ?_;clear br K3;refine jD (Ai @f9 (bp i (by omega))) ?_;refine⟨⟨i+1,by omega,fun _=>hz,?_,rfl,f8,f3,f0,rfl⟩,?_⟩
     ·intro j hj;by_cases e:j=i
      ·rw[e];exact hg
      ·exact bT j (by omega)
     ·simp only[g9,aH,↓reduceIte];omega
    clear br;refine jS (Ai @g3 (Ai (HK hz) @g0)) fun K hK=>?_;refine ad (RK i aY _) ?_;rintro r s3 ⟨rfl,rfl⟩;by_cases hf:qa t i
    ·rw[decide_eq_true hf];by_cases hp:i%2=0
     ·have t2:(iG (i:Int) 2==0)=true:=(by rw[qS];exact lN (by omega));simp only[↓DM,bN,DX,Nz,↓DN,Qa,Qb,Qc,Qd,Qe,Qf,Qg,Qh,reduceCtorEq,↓reduceIte,Na,Nb,Nc,Nk,Nf,Ng,Nh,Za,Zb,Zc,TT,kS,t2,g0,I9];refine ad (hmc _ _) ?_;rintro r s4 ⟨rfl,rfl⟩;by_cases hm:eg t ((i/2:Nat):Int)
      ·rw[decide_eq_true hm];refine jN (Ai @kS (Ai @g0 (Ai @aq (Ai @aY (Ai @cl (Ai @iK (Ai @I9 @hq3))))))) ?_;refine ad (YK _) ?_;rintro r s5 ⟨rfl,rfl⟩;by_cases hn:0≤NI
       ·have fQ:¬gi t i:=fun k=>by
         have:=(eO.1 k).2 hp hm;exact absurd hn (of_decide_eq_false this)
        refine jV (decide_eq_true hn) hK ?_;clear hK K;refine jE ?_;refine jA ?_;refine jI ?_;rw[Pg i aY fQ];exact jW ⟨rfl,rfl⟩
       ·have hg:gi t i:=eO.2 ⟨hf,fun _ _=>decide_eq_false hn⟩;refine jV (decide_eq_false hn) hK ?_;clear hK K;refine jF ?_;refine ab ?_;simp only[ar,az,if_true,if_false];exact bG hg _ g9 g8 g3 g0
      ·have hg:gi t i:=eO.2 ⟨hf,fun _ k=>absurd k hm⟩;rw[decide_eq_false hm];refine jR hK ?_;clear hK K;refine jF ?_;refine ab ?_;simp only[ar,az,if_true,if_false];exact bG hg _ g9 g8 g3 g0
     ·have t2:(iG (i:Int) 2==0)=false:=(by rw[qS];exact jv (by omega));have hg:gi t i:=eO.2 ⟨hf,fun k=>absurd k hp⟩;simp only[↓DM,bN,DX,Nz,↓DN,Qa,Qb,Qc,Qd,Qe,Qf,Qg,Qh,reduceCtorEq,↓reduceIte,Na,Nb,Nc,Nk,Nf,Ng,Nh,Za,Zb,Zc,TT,kS,t2];refine hK _ _ ?_;clear hK K;refine jF ?_;refine ab ?_;simp only[ar,az,if_true,if_false];exact bG hg _ g9 g8 g3 g0
    ·have fQ:¬gi t i:=fun k=>hf k.1;rw[decide_eq_false hf];refine jR hK ?_;clear hK K;refine jE ?_;refine jA ?_;refine jI ?_;rw[Pg i aY fQ];exact jW ⟨rfl,rfl⟩
  ·refine jB (Ai @g9 (Ai @g8 (Ai @aq (decide_eq_false aY)))) ?_;refine wK fun K2 aX=>?_;refine jF ?_;refine aC ?_;simp only[az,ar,if_true];refine hK _ _ ?_;clear hK aX K2 K;have L6:∀j,j<t.length→gi t j:=fun j h=>bT j (by omega);by_cases hz:aM t=0
   ·have hp:decide ((0:Int)<((aM t:Nat):Int))=false:=decide_eq_false (by omega);refine jB (Ai @g3 (Ai (jv (show ¬((aM t:Nat):Int)=1 by omega)) @hp)) ?_;refine jI ?_;rw[Pf hz];exact jW ⟨rfl,rfl⟩
   ·have hp:decide ((0:Int)<((aM t:Nat):Int))=true:=decide_eq_true (by omega);have dJ:=qz hz L6;by_cases h1:aM t=1
    ·have e1:=lN (show((aM t:Nat):Int)=1 by omega);rw[e1] at dJ;refine jB (Ai @g3 @e1) ?_;refine jI ?_;rw[dJ];exact jW ⟨rfl,rfl⟩
    ·have e1:=jv (show ¬((aM t:Nat):Int)=1 by omega);rw[e1,Bool.false_or] at dJ;have e2:kK .i64 (aM t:Int) 2=((aM t/2:Nat):Int):=dv _ (by omega);have e3:di .i64 (aM t:Int) 1=(((aM t/2+(aM t-aM t/2):Nat)):Int)-1:=(by rw[bR (by omega)];omega);have hcm:=fun s=>Df (aM t/2) (aM t-aM t/2) (by omega) s;generalize (((aM t/2+(aM t-aM t/2):Nat)):Int)-1=LL at *
     refine jS (Ai @g3 (Ai @e1 (Ai @hp (Ai @kS (Ai @e2 (Ai @e3 @g0)))))) fun K hK=>?_;refine ad (hcm _) ?_;rintro r s3 ⟨rfl,rfl⟩;refine jR hK ?_;clear hK K;refine jI ?_;rw[dJ];exact jW ⟨rfl,rfl⟩
theorem kF(t:List af)(ht:t.length≤2^61)(s:AS):aj prog Γ 20 [aW t] s (fun r s'=>r=.v (.int .i64 (aM t))∧s'=s):=by
 refine aa func20 rfl ntmps20 results20 (by simp) ?_;unfold aW;generalize aK af.cells t=X at *
 refine jA ?_;refine wK fun K hK=>?_;refine jA ?_;refine ah ?_;refine aD (fun E s2=>∃j:Nat,j≤6∧(∀k,k<j→t.length≠2*2^k-1)∧E 3=.v (.int .i64 ((2^j:Nat):Int))∧E 0=.sl 5 t.length X .any∧s2=s)
  (fun E _=>match E 3 with |.v (.int _ i)=>100-i.toNat|_=>0) ?_ ?_
 ·exact⟨0,by omega,fun k h=>absurd h (Nat.not_lt_zero _),rfl,rfl,rfl⟩
 ·rintro E1 s2 ⟨j,hj,bT,g3,g0,rfl⟩ -
  refine wK fun K2 aX=>?_;by_cases kJ:j≤5
  ·have hp:=mE kJ;have e1:gO .i64 2 ((2^j:Nat):Int)=((2*2^j:Nat):Int):=bE _ (by omega);have e2:di .i64 ((2*2^j:Nat):Int) 1=((2*2^j-1:Nat):Int):=(by rw[bR (by omega)];omega);have e3:gO .i64 ((2^j:Nat):Int) 2=((2^(j+1):Nat):Int):=(by rw[dI (by omega),Nat.pow_succ];omega);have h1:decide (((2^j:Nat):Int)≤32)=true:=decide_eq_true (by omega);generalize hP:2^j=P at *
   refine jB (Ai @g3 @h1) ?_;refine jE ?_;refine ab ?_;refine aX _ _ ?_;clear aX K2;refine wK fun K3 br=>?_;refine ah ?_;by_cases he:t.length=2*P-1
   ·refine jB (Ai @g0 (Ai @g3 (Ai @e1 (Ai @e2 (X2 he))))) ?_;refine jE ?_;refine jB @g3 ?_;refine jI ?_;rw[GG (by rw[←hP];exact O0 kJ) he];exact jW ⟨rfl,rfl⟩
   ·refine jB (Ai @g0 (Ai @g3 (Ai @e1 (Ai @e2 (xbF he))))) ?_;refine jF ?_;refine ab ?_;simp only[ar,az,if_true,if_false];refine br _ _ ?_;clear br K3;refine jD (Ai @g3 @e3) ?_;refine⟨⟨j+1,by omega,?_,rfl,g0,rfl⟩,?_⟩
    ·intro k hk;by_cases e:k=j
     ·rw[e,hP];exact he
     ·exact bT k (by omega)
    ·have :P<2^(j+1):=(by rw[Nat.pow_succ,hP];omega);simp only[g3,aH,↓reduceIte];omega
  ·obtain rfl:j=6:=(by omega);have h1:decide (((2^6:Nat):Int)≤32)=false:=(by decide);refine jB (Ai @g3 @h1) ?_;refine jF ?_;refine aC ?_;simp only[az,ar,if_true];refine hK _ _ ?_;clear hK aX K2 K;refine jA ?_;refine jI ?_;rw[LR (t:=t) (fun n hn=>by obtain⟨m,hm,rfl⟩:=hn.pow;exact bT m (by omega))];exact jW ⟨rfl,rfl⟩
theorem eP(t:List af)(ht:t.length≤2^61)(i:Int)(s:AS):aj prog Γ 21 [aW t,.v (.int .i64 i)] s (fun r s'=>r=.v (.bool (decide (cy t i)))∧s'=s):=by
 refine aa func21 rfl ntmps21 results21 (by simp) ?_;have cx:=fun i(h:i<t.length)=>cK (t:=t) h;unfold aW;generalize aK af.cells t=X at *
 have qC:¬cy t i→decide (cy t i)=false:=fun h=>decide_eq_false h;refine jA ?_;by_cases h0:0≤i
 ·obtain⟨n,rfl⟩:=Int.eq_ofNat_of_zero_le h0;by_cases h1:n<t.length
  ·have e1:=bE n (by omega);by_cases h2:2*n<t.length
   ·have iK:=cx (2*n) h2;have hk:decide (cy t (n:Int))=((nd t (2*n)).kind==1):=by
     rw[Bool.eq_iff_iff,decide_eq_true_iff,beq_iff_eq];unfold cy;rw[Int.toNat_natCast];exact⟨fun k=>k.2.2,fun k=>⟨h0,by omega,k⟩⟩
    generalize nd t (2*n)=N at *
    obtain⟨k,nm,y,pa,u⟩:=N;unfold af.cells at iK;have cl:(0:Int)≤((2*n:Nat):Int):=(by omega);refine jB (Ai (decide_eq_true h0) (Ai @aq (Ai (decide_eq_true h1) (Ai (decide_eq_true h2) (Ai @e1 (Ai @h2 (Ai @cl @iK))))))) ?_;refine jI ?_;rw[hk];exact jW ⟨rfl,rfl⟩
   ·refine jB (Ai (decide_eq_true h0) (Ai @aq (Ai (decide_eq_true h1) (Ai (decide_eq_false h2) @e1)))) ?_;refine jI ?_;rw[qC (fun k=>by have:=k.2.1;omega)];exact jW ⟨rfl,rfl⟩
  ·refine jB (Ai (decide_eq_true h0) (Ai @aq (decide_eq_false h1))) ?_;refine jI ?_;rw[qC (fun k=>by have:=k.2.1;omega)];exact jW ⟨rfl,rfl⟩
 ·refine jB (decide_eq_false h0) ?_;refine jI ?_;rw[qC (fun k=>h0 k.1)];exact jW ⟨rfl,rfl⟩
theorem YL{a b:List UInt8}(h:a=b):(a==b)=true:=by simpa using h
theorem YM{a b:List UInt8}(h:a≠b):(a==b)=false:=by simpa using h
theorem yM(t:List af)(ht:t.length≤2^61)(a k:Nat)(hak:a+k<2^61)(s:AS):aj prog Γ 66 [aW t,.v (.int .i64 a),.v (.int .i64 (((a+k:Nat):Int)-1))] s (fun r s'=>r=.v (.int .i64 (fS (cy t) a k))∧s'=s):=by
 refine aa func66 rfl ntmps66 results66 (by simp) ?_;have hm:=fun i s=>eP (Γ:=Γ) t ht i s;unfold aW at hm⊢;generalize aK af.cells t=X at *
 refine jA ?_;refine jA ?_;refine wK fun K hK=>?_;refine jA ?_;refine ah ?_;refine aD (fun E s2=>∃i:Nat,i≤k∧E 8=.v (.int .i64 ((a+i:Nat):Int))∧E 7=.v (.int .i64 (fS (cy t) a i))∧E 0=.sl 5 t.length X .any∧E 2=.v (.int .i64 (((a+k:Nat):Int)-1))∧s2=s)
  (fun E _=>match E 8 with |.v (.int _ i)=>a+k-i.toNat|_=>0) ?_ ?_
 ·exact⟨0,Nat.zero_le _,rfl,rfl,rfl,rfl,rfl⟩
 ·rintro E1 s2 ⟨i,hi,g8,g7,g0,g2,rfl⟩ -
  refine wK fun K2 aX=>?_;by_cases aY:i<k
  ·have h1:decide (((a+i:Nat):Int)≤((a+k:Nat):Int)-1)=true:=decide_eq_true (by omega);refine jB (Ai @g8 (Ai @g2 @h1)) ?_;refine jE ?_;refine ab ?_;refine aX _ _ ?_;clear aX K2;refine wK fun K3 br=>?_;refine ah ?_;have bG:∀(E:Env),E 8=.v (.int .i64 ((a+i:Nat):Int))→E 7=.v (.int .i64 (fS (cy t) a (i+1)))→E 0=.sl 5 t.length X .any→E 2=.v (.int .i64 (((a+k:Nat):Int)-1))→K3 E s2:=by
    intro E f8 f7 f0 f2;refine br _ _ ?_;clear br K3;refine jD (Ai @f8 (bp (a+i) (by omega))) ?_;refine⟨⟨i+1,aY,rfl,f7,f0,f2,rfl⟩,?_⟩;simp only[g8,aH,↓reduceIte];omega
   clear br;refine jS (Ai @g0 @g8) fun K hK=>?_;refine ad (hm _ _) ?_;rintro r s3 ⟨rfl,rfl⟩;have hc:=Cz (cy t) a i;by_cases hp:cy t ((a+i:Nat):Int)
   ·rw[decide_eq_true hp];refine jR hK ?_;clear hK K;refine jE ?_;refine jD (Ai @g7 (bp (fS (cy t) a i) (by omega))) ?_;refine bG _ g8 ?_ g0 g2;have :fS (cy t) a (i+1)=fS (cy t) a i+1:=(by simp only[fS];rw[if_pos hp]);rw[this];simp only[aH,Nc,↓reduceIte]
   ·rw[decide_eq_false hp];refine jR hK ?_;clear hK K;refine jF ?_;refine ab ?_;refine bG _ g8 ?_ g0 g2;have :fS (cy t) a (i+1)=fS (cy t) a i:=(by simp only[fS];rw[if_neg hp];omega);rw[this];simp only[aH,g7,Nc,↓reduceIte]
  ·have h1:decide (((a+i:Nat):Int)≤((a+k:Nat):Int)-1)=false:=decide_eq_false (by omega);refine jB (Ai @g8 (Ai @g2 @h1)) ?_;refine jF ?_;refine aC ?_;simp only[az,ar,if_true];refine hK _ _ ?_;clear hK aX K2 K;obtain rfl:i=k:=(by omega);refine jB @g7 ?_;exact jJ
theorem yN(t:List af)(ht:t.length≤2^61)(name:List UInt8)(s:AS):aj prog Γ 64 [aW t,.v (.string ⟨name.toArray⟩)] s (fun r s'=>r=.v (.int .i64 (rT t name))∧s'=s):=by
 refine aa func64 rfl ntmps64 results64 (by simp) ?_;have hm:=fun i s=>eP (Γ:=Γ) t ht i s;have cx:=fun i(h:i<t.length)=>cK (t:=t) h;obtain⟨Q,hQ⟩:∃Q:Nat→Bool,Q=fun(j:Nat)=>decide (cy t (j:Int)∧(nd t (2*j)).name=name):=⟨_,rfl⟩;have dJ:rT t name=cc Q (gJ t-0) 0:=(by rw[hQ];rfl);unfold aW at hm⊢;generalize aK af.cells t=X at *
 refine jA ?_;refine wK fun K hK=>?_;refine jA ?_;refine ah ?_;refine aD (fun E s2=>∃i:Nat,i≤2^61∧cc Q (gJ t-i) i=cc Q (gJ t-0) 0∧E 5=.v (.int .i64 i)∧E 0=.sl 5 t.length X .any∧E 1=.v (.string ⟨name.toArray⟩)∧s2=s)
  (fun E _=>match E 5 with |.v (.int _ i)=>gJ t-i.toNat|_=>0) ?_ ?_
 ·exact⟨0,by omega,rfl,rfl,rfl,rfl,rfl⟩
 ·rintro E1 s2 ⟨i,hi,hf,g7,g0,g1,rfl⟩ -
  refine wK fun K2 aX=>?_;by_cases aY:i<gJ t
  ·have fj:2*i<t.length:=yE.1 aY;refine jB (Ai @g7 (Ai @g0 (Ai (bE i (by omega)) (Ai @aq (decide_eq_true fj))))) ?_;refine jE ?_;refine ab ?_;refine aX _ _ ?_;clear aX K2;refine wK fun K3 br=>?_;refine ah ?_;obtain⟨k,hk⟩:∃k,gJ t-i=k+1:=⟨gJ t-i-1,by omega⟩;have tj:gJ t-(i+1)=k:=(by omega);rw[hk] at hf;have zw:Q i=decide (cy t i∧(nd t (2*i)).name=name):=(by rw[hQ]);have bG:∀(E:Env),Q i=false→E 5=.v (.int .i64 i)→E 0=.sl 5 t.length X .any→E 1=.v (.string ⟨name.toArray⟩)→K3 E s2:=by
    intro E hq f7 f0 f1;refine br _ _ ?_;clear br K3;refine jD (Ai @f7 (bp i (by omega))) ?_;refine⟨⟨i+1,by omega,by rw[tj,←hf,jY hq],rfl,f0,f1,rfl⟩,?_⟩;simp only[g7,aH,↓reduceIte];omega
   clear br;have iK:=cx (2*i) fj;generalize nd t (2*i)=N at *
   obtain⟨nk,nm,ny,jj,nu⟩:=N;unfold af.cells at iK;simp only at zw;have cl:(0:Int)≤((2*i:Nat):Int):=(by omega);refine jS (Ai @g0 @g7) fun K hK=>?_;refine ad (hm _ _) ?_;rintro r s3 ⟨rfl,rfl⟩;by_cases hp:cy t (i:Int)
   ·rw[decide_eq_true hp];by_cases hn:nm=name
    ·rw[decide_eq_true ⟨hp,hn⟩] at zw;refine jV (Ai @g0 (Ai @g7 (Ai @g1 (Ai (bE i (by omega)) (Ai @aq (Ai @fj (Ai @cl (Ai @iK (YL hn))))))))) hK ?_;clear hK K;refine jE ?_;refine jB @g7 ?_;refine jI ?_;rw[dJ,←hf,jX zw];exact jW ⟨rfl,rfl⟩
    ·rw[decide_eq_false (fun q=>hn q.2)] at zw;refine jV (Ai @g0 (Ai @g7 (Ai @g1 (Ai (bE i (by omega)) (Ai @aq (Ai @fj (Ai @cl (Ai @iK (YM hn))))))))) hK ?_;clear hK K;refine jF ?_;refine ab ?_;exact bG _ zw g7 g0 g1
   ·rw[decide_eq_false hp];rw[decide_eq_false (fun q=>hp q.1)] at zw;refine jR hK ?_;clear hK K;refine jF ?_;refine ab ?_;exact bG _ zw g7 g0 g1
  ·have fj:¬2*i<t.length:=fun h=>aY (yE.2 h);refine jB (Ai @g7 (Ai @g0 (Ai (bE i (by omega)) (Ai @aq (decide_eq_false fj))))) ?_;refine jF ?_;refine aC ?_;simp only[az,ar,if_true];refine hK _ _ ?_;clear hK aX K2 K;rw[show gJ t-i=0 by omega] at hf;refine jA ?_;refine jI ?_;rw[dJ,←hf];exact jW ⟨rfl,rfl⟩
theorem EL{t:List af}:bd t↔aM t≠0∧(∀i,i<t.length→tF t i)∧(aM t=1∨0<fS (cy t) (aM t/2) (aM t-aM t/2)):=by
 unfold bd;constructor
 ·rintro⟨a,b,c⟩;exact⟨a,(EG a).2 b,c.imp id fun q=>by rw[rS (yC a)];exact q⟩
 ·rintro⟨a,b,c⟩;exact⟨a,(EG a).1 b,c.imp id fun q=>by rw[←rS (yC a)];exact q⟩
theorem uW(t:List af)(ht:dE t)(s:AS):aj prog Γ 16 [aW t] s (fun r s'=>r=.v (.bool (decide (bd t)))∧s'=s):=by
 refine aa func16 rfl ntmps16 results16 (by simp) ?_;have me:=ht.1;have oo:=fun s=>kF (Γ:=Γ) t me s;have hmc:=fun i s=>eP (Γ:=Γ) t me i s;have BQ:=fun name s=>yN (Γ:=Γ) t me name s;have Df:=fun a k h s=>yM (Γ:=Γ) t me a k h s;have hrn:=fun i s=>uV (Γ:=Γ) (nd t i) (ht.nd i).1 s;have hul:=fun i=>(ht.nd i).1;have cx:=fun i(h:i<t.length)=>cK (t:=t) h;have X4:=Ct t;have L5:aM t≠0→t.length=2*aM t-1:=fun h=>(bU.resolve_left h).2;have Pf:aM t=0→decide (bd t)=false:=fun h=>decide_eq_false fun k=>k.1 h;have Pg:∀i,i<t.length→¬tF t i→decide (bd t)=false:=fun i h1 h2=>decide_eq_false fun k=>h2 ((EL.1 k).2.1 i h1);have qz:aM t≠0→(∀i,i<t.length→tF t i)→decide (bd t)=(((aM t:Int)==1)||decide ((0:Int)<(fS (cy t) (aM t/2) (aM t-aM t/2):Int))):=by
  intro h1 h2;rw[Bool.eq_iff_iff,decide_eq_true_iff,Bool.or_eq_true,beq_iff_eq,decide_eq_true_iff,EL];constructor
  ·rintro⟨_,_,h3⟩;exact h3.imp (fun q=>by omega) (fun q=>by omega)
  ·intro h3;exact⟨h1,h2,h3.imp (fun q=>by omega) (fun q=>by omega)⟩
 unfold aW at *
 generalize aK af.cells t=X at *
 generalize decide (bd t)=Pb at *
 refine jA ?_;refine jK (oo _) ?_;rintro s1 rfl;refine wK fun K hK=>?_;by_cases hz:aM t=0
 ·refine jB (Ox hz) ?_;refine jE ?_;refine jA ?_;refine jI ?_;rw[Pf hz];exact jW ⟨rfl,rfl⟩
 ·refine jB (HK hz) ?_;refine jF ?_;refine ab ?_;refine hK _ _ ?_;clear hK K;have hlen:=L5 hz;refine wK fun K hK=>?_;refine jA ?_;refine ah ?_;refine aD (fun E s2=>∃i:Nat,i≤t.length∧(∀j,j<i→tF t j)∧E 4=.v (.int .i64 i)∧E 3=.v (.int .i64 (aM t))∧E 0=.sl 5 t.length X .any∧s2=s1)
   (fun E _=>match E 4 with |.v (.int _ i)=>t.length-i.toNat|_=>0) ?_ ?_
  ·exact⟨0,Nat.zero_le _,fun j h=>absurd h (Nat.not_lt_zero _),rfl,rfl,rfl,rfl⟩
  ·rintro E1 s2 ⟨i,hi,bT,g4,g3,g0,rfl⟩ -
   refine wK fun K2 aX=>?_;by_cases aY:i<t.length
   ·refine jB (Ai @g4 (Ai @g0 (Ai @aq (decide_eq_true aY)))) ?_;refine jE ?_;refine ab ?_;refine aX _ _ ?_;clear aX K2;refine wK fun K3 br=>?_;refine ah ?_;have yO:=Pg i aY;have eO:tF t i↔(nd t i).right∧((nd t i).kind=0∨((nd t i).kind=1↔i%2=0))∧((nd t i).kind=1→rT t (nd t i).name=((i/2:Nat):Int))∧∀u∈(nd t i).ig,(ju (i:Int)).1≤u∧u≤(ju (i:Int)).2∧cy t u:=Iff.rfl;have iK:=cx i aY;have S4:=hrn i;have xcl:=hul i;have YK:=fun s=>BQ (nd t i).name s;have hun:=fun s=>nn (Γ:=Γ) (i:Int) s;generalize (ju (i:Int)).1=ua at *
    generalize (ju (i:Int)).2=ub at *
    generalize rT t (nd t i).name=NI at *
    generalize nd t i=N at *
    obtain⟨nk,nm,ny,jj,nu⟩:=N;unfold af.cells at iK S4;simp only at YK xcl eO;unfold aF at iK S4;have cl:(0:Int)≤(i:Int):=(by omega);have qS:iG (i:Int) 2=((i%2:Nat):Int):=lH i 2;have I9:kK .i64 (i:Int) 2=((i/2:Nat):Int):=dv i (by omega);have bb:((true != true)=false∧(false != false)=false)∧((true != false)=true∧(false != true)=true):=⟨⟨rfl,rfl⟩,rfl,rfl⟩;have bc:((true==true)=true∧(false==false)=true)∧((true==false)=false∧(false==true)=false):=⟨⟨rfl,rfl⟩,rfl,rfl⟩;have bG:tF t i→∀(E:Env),E 4=.v (.int .i64 i)→E 3=.v (.int .i64 (aM t))→E 0=.sl 5 t.length X .any→K3 E s2:=by
     intro hg E f4 f3 f0;refine br _ _ ?_;clear br K3;refine jD (Ai @f4 (bp i (by omega))) ?_;refine⟨⟨i+1,by omega,?_,rfl,f3,f0,rfl⟩,?_⟩
     ·intro j hj;by_cases e:j=i
      ·rw[e];exact hg
      ·exact bT j (by omega)
     ·simp only[g4,aH,↓reduceIte];omega
    clear br;refine aU 5 (by decide) ?_;intro K5 jZ;refine jN (Ai @g0 (Ai @g4 (Ai @aq (Ai @aY (Ai @cl @iK))))) ?_;intro o1 h1;refine jZ _ _ o1 _ rfl h1 ?_;clear jZ K5 h1;refine wK fun K4 eb=>?_;have h4:(af.right ⟨nk,nm,ny,jj,nu⟩∧(nk=0∨(nk=1↔i%2=0)))→∀(E:Env),E 4=.v (.int .i64 i)→E 3=.v (.int .i64 (aM t))→E 0=.sl 5 t.length X .any→E 5=.dr [.v (.int .i64 nk),.sl 1 nm.length (nm.map ai) .any,.v (.int .u64 ny),.sl 1 jj.length (jj.map ai) .any,.sl 1 nu.length (nu.map aI) .any]→K4 E s2:=by
     clear g4 g3 g0;rintro⟨gr,gk⟩ E g4 g3 g0 g5;refine eb _ _ ?_;clear eb K4;refine wK fun K6 kC=>?_;have h6:(nk=1→NI=((i/2:Nat):Int))→∀(E:Env),E 4=.v (.int .i64 i)→E 3=.v (.int .i64 (aM t))→E 0=.sl 5 t.length X .any→E 5=.dr [.v (.int .i64 nk),.sl 1 nm.length (nm.map ai) .any,.v (.int .u64 ny),.sl 1 jj.length (jj.map ai) .any,.sl 1 nu.length (nu.map aI) .any]→K6 E s2:=by
      clear g4 g3 g0 g5;intro gn E g4 g3 g0 g5;refine kC _ _ ?_;clear kC K6;refine jS @g4 fun K hK=>?_;refine ad (hun _) ?_;rintro r s3 ⟨rfl,rfl⟩;refine jR hK ?_;clear hK K;refine jA ?_;refine ah ?_;refine aD (fun E s4=>∃k:Nat,k≤nu.length∧(∀u∈nu.take k,ua≤u∧u≤ub∧cy t u)∧E 8=.v (.int .i64 k)∧E 6=.v (.int .i64 ua)∧E 7=.v (.int .i64 ub)∧E 4=.v (.int .i64 i)∧E 3=.v (.int .i64 (aM t))∧E 0=.sl 5 t.length X .any∧E 5=.dr [.v (.int .i64 nk),.sl 1 nm.length (nm.map ai) .any,.v (.int .u64 ny),.sl 1 jj.length (jj.map ai) .any,.sl 1 nu.length (nu.map aI) .any]∧s4=s3)
       (fun E _=>match E 8 with |.v (.int _ i)=>nu.length-i.toNat|_=>0) ?_ ?_
      ·exact⟨0,Nat.zero_le _,(by intro u hu;simp at hu),rfl,rfl,rfl,g4,g3,g0,g5,rfl⟩
      ·clear g4 g3 g0 g5;rintro E2 s4 ⟨k,hk,hku,g8,g6,g7,g4,g3,g0,g5,rfl⟩ -
       refine wK fun K7 H4=>?_;by_cases tj:k<nu.length
       ·refine jB (Ai @g8 (Ai @g5 (Ai @aq (decide_eq_true tj)))) ?_;refine jE ?_;refine ab ?_;refine H4 _ _ ?_;clear H4 K7;refine wK fun K8 hK8=>?_;refine ah ?_;have hgk:(0:Int)≤(k:Int):=(by omega);have GO:=ea tj;have L7:nu[k]∈nu:=List.getElem_mem tj;have xco:nu.take (k+1)=nu.take k++[nu[k]]:=List.take_succ_eq_append_getElem tj;generalize nu[k]=u at *
        have YN:(ua≤u∧u≤ub∧cy t u)→∀(E:Env),E 8=.v (.int .i64 k)→E 6=.v (.int .i64 ua)→E 7=.v (.int .i64 ub)→E 4=.v (.int .i64 i)→E 3=.v (.int .i64 (aM t))→E 0=.sl 5 t.length X .any→E 5=.dr [.v (.int .i64 nk),.sl 1 nm.length (nm.map ai) .any,.v (.int .u64 ny),.sl 1 jj.length (jj.map ai) .any,.sl 1 nu.length (nu.map aI) .any]→K8 E s4:=by
         intro hu E f8 f6 f7 f4 f3 f0 f5;refine hK8 _ _ ?_;clear hK8 K8;refine jD (Ai @f8 (bp k (by omega))) ?_;refine⟨⟨k+1,by omega,?_,rfl,f6,f7,f4,f3,f0,f5,rfl⟩,?_⟩
         ·intro v hv;rw[xco,List.mem_append,List.mem_singleton] at hv;rcases hv with hv|rfl
          ·exact hku v hv
          ·exact hu
         ·simp only[g8,aH,↓reduceIte];omega
        clear hK8;refine jB (Ai @g5 (Ai @g8 (Ai @aq (Ai @tj (Ai @hgk (Ai @GO @aI.eq_1)))))) ?_;by_cases u1:u<ua
        ·refine jB (Ai @g6 (decide_eq_true u1)) ?_;refine jE ?_;refine jA ?_;refine jI ?_;rw[yO (fun q=>by have:=((eO.1 q).2.2.2 u L7).1;omega)];exact jW ⟨rfl,rfl⟩
        ·by_cases u2:ub<u
         ·refine jB (Ai @g6 (Ai @g7 (Ai (decide_eq_false u1) (decide_eq_true u2)))) ?_;refine jE ?_;refine jA ?_;refine jI ?_;rw[yO (fun q=>by have:=((eO.1 q).2.2.2 u L7).2.1;omega)];exact jW ⟨rfl,rfl⟩
         ·refine jS (Ai @g6 (Ai @g7 (Ai @g0 (Ai (decide_eq_false u1) (decide_eq_false u2))))) fun K hK=>?_;refine ad (hmc _ _) ?_;rintro r s5 ⟨rfl,rfl⟩;by_cases u3:cy t u
          ·rw[decide_eq_true u3];refine jR hK ?_;clear hK K;refine jF ?_;refine ab ?_;simp only[ar,az,if_true,if_false];exact YN ⟨by omega,by omega,u3⟩ _ g8 g6 g7 g4 g3 g0 g5
          ·rw[decide_eq_false u3];refine jR hK ?_;clear hK K;refine jE ?_;refine jA ?_;refine jI ?_;rw[yO (fun q=>u3 ((eO.1 q).2.2.2 u L7).2.2)];exact jW ⟨rfl,rfl⟩
       ·refine jB (Ai @g8 (Ai @g5 (Ai @aq (decide_eq_false tj)))) ?_;refine jF ?_;refine aC ?_;simp only[az,ar,if_true,if_false];rw[List.take_of_length_le (by omega)] at hku;exact bG (eO.2 ⟨gr,gk,gn,hku⟩) _ g4 g3 g0
     clear kC;by_cases k1:nk=1
     ·refine jS (Ai @g5 (Ai (lN k1) @g0)) fun K hK=>?_;refine ad (YK _) ?_;rintro r s3 ⟨rfl,rfl⟩;by_cases hn:NI=((i/2:Nat):Int)
      ·refine jV (Ai @g4 (Ai @kS (Ai @I9 (eqI hn)))) hK ?_;clear hK K;refine jF ?_;refine ab ?_;exact h6 (fun _=>hn) _ g4 g3 g0 g5
      ·refine jV (Ai @g4 (Ai @kS (Ai @I9 (T9 hn)))) hK ?_;clear hK K;refine jE ?_;refine jA ?_;refine jI ?_;rw[yO (fun q=>hn ((eO.1 q).2.2.1 k1))];exact jW ⟨rfl,rfl⟩
     ·refine jB (Ai @g5 (jv k1)) ?_;refine jF ?_;refine ab ?_;exact h6 (fun q=>absurd q k1) _ g4 g3 g0 g5
    clear eb;refine jQ fun K hK=>?_;refine ad (S4 _) ?_;rintro r s3 ⟨rfl,rfl⟩;by_cases gr:af.right ⟨nk,nm,ny,jj,nu⟩
    ·rw[decide_eq_true gr];by_cases k0:nk=0
     ·refine jV (eqI k0) hK ?_;clear hK K;refine jF ?_;refine ab ?_;exact h4 ⟨gr,.inl k0⟩ _ g4 g3 g0 rfl
     ·by_cases k1:nk=1
      ·by_cases kp:i%2=0
       ·have t2:(iG (i:Int) 2==0)=true:=(by rw[qS];exact lN (by omega));simp only[↓DM,bN,DX,Nz,↓DN,Qa,Qb,Qc,Qd,Qe,Qf,Qg,Qh,reduceCtorEq,↓reduceIte,Na,Nb,Nc,Nk,Nf,Ng,Nh,Za,Zb,Zc,TT,T9 k0,lN k1,g4,kS,t2,bb,bc];refine hK _ _ ?_;clear hK K;refine jF ?_;refine ab ?_;exact h4 ⟨gr,.inr ⟨fun _=>kp,fun _=>k1⟩⟩ _ g4 g3 g0 rfl
       ·have t2:(iG (i:Int) 2==0)=false:=(by rw[qS];exact jv (by omega));simp only[↓DM,bN,DX,Nz,↓DN,Qa,Qb,Qc,Qd,Qe,Qf,Qg,Qh,reduceCtorEq,↓reduceIte,Na,Nb,Nc,Nk,Nf,Ng,Nh,Za,Zb,Zc,TT,T9 k0,lN k1,g4,kS,t2,bb,bc];refine hK _ _ ?_;clear hK K;refine jE ?_;refine jA ?_;refine jI ?_;rw[yO (fun q=>by rcases(eO.1 q).2.1 with h|h;exact k0 h;exact kp (h.1 k1))];exact jW ⟨rfl,rfl⟩
      ·by_cases kp:i%2=0
       ·have t2:(iG (i:Int) 2==0)=true:=(by rw[qS];exact lN (by omega));simp only[↓DM,bN,DX,Nz,↓DN,Qa,Qb,Qc,Qd,Qe,Qf,Qg,Qh,reduceCtorEq,↓reduceIte,Na,Nb,Nc,Nk,Nf,Ng,Nh,Za,Zb,Zc,TT,T9 k0,jv k1,g4,kS,t2,bb,bc];refine hK _ _ ?_;clear hK K;refine jE ?_;refine jA ?_;refine jI ?_;rw[yO (fun q=>by rcases(eO.1 q).2.1 with h|h;exact k0 h;exact k1 (h.2 kp))];exact jW ⟨rfl,rfl⟩
       ·have t2:(iG (i:Int) 2==0)=false:=(by rw[qS];exact jv (by omega));simp only[↓DM,bN,DX,Nz,↓DN,Qa,Qb,Qc,Qd,Qe,Qf,Qg,Qh,reduceCtorEq,↓reduceIte,Na,Nb,Nc,Nk,Nf,Ng,Nh,Za,Zb,Zc,TT,T9 k0,jv k1,g4,kS,t2,bb,bc];refine hK _ _ ?_;clear hK K;refine jF ?_;refine ab ?_;exact h4 ⟨gr,.inr ⟨fun h=>absurd h k1,fun h=>absurd h kp⟩⟩ _ g4 g3 g0 rfl
    ·rw[decide_eq_false gr];refine jR hK ?_;clear hK K;refine jE ?_;refine jA ?_;refine jI ?_;rw[yO (fun q=>gr (eO.1 q).1)];exact jW ⟨rfl,rfl⟩
   ·refine jB (Ai @g4 (Ai @g0 (Ai @aq (decide_eq_false aY)))) ?_;refine jF ?_;refine aC ?_;simp only[az,ar,if_true];refine hK _ _ ?_;clear hK aX K2 K;have L6:∀j,j<t.length→tF t j:=fun j h=>bT j (by omega);have dJ:=qz hz L6;by_cases h1:aM t=1
    ·have e1:=lN (show((aM t:Nat):Int)=1 by omega);rw[e1] at dJ;refine jB (Ai @g3 @e1) ?_;refine jI ?_;rw[dJ];exact jW ⟨rfl,rfl⟩
    ·have e1:=jv (show ¬((aM t:Nat):Int)=1 by omega);rw[e1,Bool.false_or] at dJ;have e2:kK .i64 (aM t:Int) 2=((aM t/2:Nat):Int):=dv _ (by omega);have e3:di .i64 (aM t:Int) 1=(((aM t/2+(aM t-aM t/2):Nat)):Int)-1:=(by rw[bR (by omega)];omega);have hcm:=fun s=>Df (aM t/2) (aM t-aM t/2) (by omega) s;generalize (((aM t/2+(aM t-aM t/2):Nat)):Int)-1=LL at *
     refine jS (Ai @g3 (Ai @e1 (Ai @kS (Ai @e2 (Ai @e3 @g0))))) fun K hK=>?_;refine ad (hcm _) ?_;rintro r s3 ⟨rfl,rfl⟩;refine jR hK ?_;clear hK K;refine jI ?_;rw[dJ];exact jW ⟨rfl,rfl⟩
theorem yP(s:AS):aj prog Γ 51 [bL] s (fun r s'=>r=al [] .any∧s'=s):=by
 refine aa func51 rfl ntmps51 results51 (by simp) ?_;unfold bL;refine jA ?_;refine wK fun K hK=>?_;refine jA ?_;refine jE ?_;refine jA ?_;refine jI ?_;exact⟨_,_,AV.aN,AS.le.refl _,rfl,rfl⟩
theorem Al(l:List UInt8)(s:AS)(hl:l.length≤2^45):aj prog Γ 51 [al l .no] s (fun r s'=>r=al l .any∧s'=s):=by
 refine aa func51 rfl ntmps51 results51 (by simp) ?_;unfold al;refine jA ?_;refine wK fun K hK=>?_;refine jB @and_false ?_;refine jF ?_;refine ab ?_;refine hK _ _ ?_;clear hK K;by_cases h0:l.length=0
 ·have uj:l=[]:=List.eq_nil_of_length_eq_zero h0;subst uj;refine jA ?_;refine jI ?_;exact⟨_,s,AV.bQ,AS.le.refl s,rfl,rfl⟩
 ·refine jS @h0 fun K hK=>?_;refine⟨by omega,by omega,fun t ht=>hK _ _ ?_⟩;clear hK K;refine jI ?_;exact⟨_,s,AV.bQ,AS.bj (AS.le.refl s) ht 0,rfl,rfl⟩
theorem fN(l:List UInt8)(s:AS)(hl:l.length≤2^45):aj prog Γ 51 [al l .any] s (fun r s'=>r=al l .any∧s'=s):=
 aj.any (pre:=[]) (post:=[]) (fun e=>by subst e;exact yP s) (Al l s hl)
theorem iz(hG:Γ 3=fu.map pn)(t:List af)(ht:dE t)(s:AS):aj prog Γ 45 [aW t] s (fun r s'=>r=.v (.int .i64 (if bd t then aM t else 0:Nat))∧s'=s):=by
 refine aa func45 rfl ntmps45 results45 (by simp) ?_;have hr:=fun s=>jk (Γ:=Γ) hG t ht s;have hl:=fun s=>om (Γ:=Γ) t ht.1 s;unfold aW at *
 generalize aK af.cells t=X at *
 refine jA ?_;refine wK fun K hK=>?_;refine jQ fun K hK=>?_;refine ad (hr _) ?_;rintro r s1 ⟨rfl,rfl⟩;by_cases h:bd t
 ·rw[decide_eq_true h];refine jR hK ?_;clear hK K;refine jF ?_;refine ab ?_;refine hK _ _ ?_;clear hK K;refine jK (hl _) ?_;rintro s2 rfl;refine jI ?_;rw[if_pos h];exact jW ⟨rfl,rfl⟩
 ·rw[decide_eq_false h];refine jR hK ?_;clear hK K;refine jE ?_;refine jA ?_;refine jI ?_;rw[if_neg h];exact jW ⟨rfl,rfl⟩
def fc(x i:Int):Bool:=decide ((ju x).1≤i∧i≤(ju x).2)
theorem ra(hG:Γ 3=fu.map pn)(x i:Int)(s:AS):aj prog Γ 73 [.v (.int .i64 x),.v (.int .i64 i)] s (fun r s'=>r=.v (.bool (fc x i))∧s'=s):=by
 refine aa func73 rfl ntmps73 results73 (by simp) ?_;have hu:=fun s=>qW (Γ:=Γ) hG x s;unfold fc;generalize ju x=U at *
 refine jA ?_;refine jK (hu _) ?_;rintro s1 rfl;by_cases h:U.1≤i
 ·refine jB (decide_eq_true h) ?_;refine jI ?_;exact jW ⟨by simp[h],rfl⟩
 ·refine jB (decide_eq_false h) ?_;refine jI ?_;exact jW ⟨by simp[h],rfl⟩
theorem uX(x i:Int)(s:AS):aj prog Γ 84 [.v (.int .i64 x),.v (.int .i64 i)] s (fun r s'=>r=.v (.bool (fc x i))∧s'=s):=by
 refine aa func84 rfl ntmps84 results84 (by simp) ?_;have hu:=fun s=>nn (Γ:=Γ) x s;unfold fc;generalize ju x=U at *
 refine jA ?_;refine jK (hu _) ?_;rintro s1 rfl;by_cases h:U.1≤i
 ·refine jB (decide_eq_true h) ?_;refine jI ?_;exact jW ⟨by simp[h],rfl⟩
 ·refine jB (decide_eq_false h) ?_;refine jI ?_;exact jW ⟨by simp[h],rfl⟩
theorem lR(t:List af)(ht:t.length≤2^61)(i:Int)(s:AS):aj prog Γ 70 [aW t,.v (.int .i64 i)] s (fun r s'=>r=.v (.bool (decide (cy t i)))∧s'=s):=by
 refine aa func70 rfl ntmps70 results70 (by simp) ?_;unfold aW;have e0:kK .i64 (t.length:Int) 2=((t.length/2:Nat):Int):=dv _ (by omega);refine jA ?_;by_cases h0:0≤i
 ·obtain⟨n,rfl⟩:=Int.eq_ofNat_of_zero_le h0;by_cases h1:n≤t.length/2
  ·by_cases h2:2*n<t.length
   ·have cx:=cK h2;have hk:decide (cy t (n:Int))=((nd t (2*n)).kind==1):=by
     rw[Bool.eq_iff_iff,decide_eq_true_iff,beq_iff_eq];unfold cy;rw[Int.toNat_natCast];exact⟨fun k=>k.2.2,fun k=>⟨h0,by omega,k⟩⟩
    generalize nd t (2*n)=N at *
    generalize aK af.cells t=X at *
    obtain⟨k,nm,y,pa,u⟩:=N;unfold af.cells at cx;have cl:(0:Int)≤((2*n:Nat):Int):=(by omega);refine jB (Ai @kS (Ai (decide_eq_true h0) (Ai @e0 (Ai (decide_eq_true (show((n:Nat):Int)≤((t.length/2:Nat):Int) by omega)) (Ai (bE n (by omega)) (Ai @aq (Ai @h2 (Ai @cl (Ai @cx (decide_eq_true h2)))))))))) ?_;refine jI ?_;rw[hk];exact jW ⟨rfl,rfl⟩
   ·have hk:decide (cy t (n:Int))=false:=decide_eq_false fun k=>h2 (by have:=k.2.1;omega);refine jB (Ai @kS (Ai (decide_eq_true h0) (Ai @e0 (Ai (decide_eq_true (show((n:Nat):Int)≤((t.length/2:Nat):Int) by omega)) (Ai (bE n (by omega)) (Ai @aq (decide_eq_false h2))))))) ?_;refine jI ?_;rw[hk];exact jW ⟨rfl,rfl⟩
  ·have hk:decide (cy t (n:Int))=false:=decide_eq_false fun k=>h1 (by have:=k.2.1;omega);refine jB (Ai @kS (Ai (decide_eq_true h0) (Ai @e0 (decide_eq_false (show ¬((n:Nat):Int)≤((t.length/2:Nat):Int) by omega))))) ?_;refine jI ?_;rw[hk];exact jW ⟨rfl,rfl⟩
 ·have hk:decide (cy t i)=false:=decide_eq_false fun k=>h0 k.1;refine jB (Ai @kS (decide_eq_false h0)) ?_;refine jI ?_;rw[hk];exact jW ⟨rfl,rfl⟩
def iZ(t:List af)(i:Int):Int:=if bd t then(if cy t i then 0 else 43) else 40
theorem vQ(hG:Γ 3=fu.map pn)(t:List af)(ht:dE t)(i:Int)(s:AS):aj prog Γ 40 [aW t,.v (.int .i64 i)] s (fun r s'=>r=.v (.int .i64 (iZ t i))∧s'=s):=by
 refine aa func40 rfl ntmps40 results40 (by simp) ?_;have hr:=fun s=>jk (Γ:=Γ) hG t ht s;have hm:=fun s=>lR (Γ:=Γ) t ht.1 i s;unfold aW at *
 obtain⟨V,hV⟩:∃V,V=iZ t i:=⟨_,rfl⟩;rw[←hV];unfold iZ at hV;generalize aK af.cells t=X at *
 refine jA ?_;refine wK fun K hK=>?_;refine ah ?_;refine jQ fun K hK=>?_;refine ad (hr _) ?_;rintro r s1 ⟨rfl,rfl⟩;by_cases h:bd t
 ·rw[if_pos h] at hV;rw[decide_eq_true h];refine jR hK ?_;clear hK K;refine jF ?_;refine jQ fun K hK=>?_;refine ad (hm _) ?_;rintro r s2 ⟨rfl,rfl⟩;by_cases h2:cy t i
  ·rw[if_pos h2] at hV;rw[decide_eq_true h2];refine jR hK ?_;clear hK K;refine jF ?_;refine ab ?_;simp only[az,ar];refine hK _ _ ?_;clear hK K;refine jA ?_;refine jI ?_;exact jW ⟨by rw[hV],rfl⟩
  ·rw[if_neg h2] at hV;rw[decide_eq_false h2];refine jR hK ?_;clear hK K;refine jE ?_;refine jA ?_;refine jI ?_;exact jW ⟨by rw[hV],rfl⟩
 ·rw[if_neg h] at hV;rw[decide_eq_false h];refine jR hK ?_;clear hK K;refine jE ?_;refine jA ?_;refine jI ?_;exact jW ⟨by rw[hV],rfl⟩
theorem yQ(t:List af)(ht:dE t)(i:Int)(s:AS):aj prog Γ 52 [aW t,.v (.int .i64 i)] s (fun r s'=>r=.v (.int .i64 (iZ t i))∧s'=s):=by
 refine aa func52 rfl ntmps52 results52 (by simp) ?_;have hr:=fun s=>uW (Γ:=Γ) t ht s;have hm:=fun s=>eP (Γ:=Γ) t ht.1 i s;unfold aW at *
 obtain⟨V,hV⟩:∃V,V=iZ t i:=⟨_,rfl⟩;rw[←hV];unfold iZ at hV;generalize aK af.cells t=X at *
 refine jA ?_;refine wK fun K hK=>?_;refine jQ fun K hK=>?_;refine ad (hr _) ?_;rintro r s1 ⟨rfl,rfl⟩;by_cases h:bd t
 ·rw[if_pos h] at hV;rw[decide_eq_true h];refine jR hK ?_;clear hK K;refine jF ?_;refine ab ?_;refine hK _ _ ?_;clear hK K;refine wK fun K hK=>?_;refine jQ fun K hK=>?_;refine ad (hm _) ?_;rintro r s2 ⟨rfl,rfl⟩;by_cases h2:cy t i
  ·rw[if_pos h2] at hV;rw[decide_eq_true h2];refine jR hK ?_;clear hK K;refine jF ?_;refine ab ?_;refine hK _ _ ?_;clear hK K;refine jA ?_;refine jI ?_;exact jW ⟨by rw[hV],rfl⟩
  ·rw[if_neg h2] at hV;rw[decide_eq_false h2];refine jR hK ?_;clear hK K;refine jE ?_;refine jA ?_;refine jI ?_;exact jW ⟨by rw[hV],rfl⟩
 ·rw[if_neg h] at hV;rw[decide_eq_false h];refine jR hK ?_;clear hK K;refine jE ?_;refine jA ?_;refine jI ?_;exact jW ⟨by rw[hV],rfl⟩
theorem iA(hG:Γ 3=fu.map pn)(leaf l:Nat)(hl:Fit l)(hn:leaf<l)(s:AS):aj prog Γ 46 [.v (.int .i64 leaf),.v (.int .i64 l)] s
  (fun r s'=>r=aF (aV (cJ leaf l)) .any∧s'=s):=by
 refine aa func46 rfl ntmps46 results46 (by simp) ?_;have Gg:=hl.le;have AF:=fw hl hn;have j0:=fun s=>kT (Γ:=Γ) hG leaf l hl hn s;have Dx:=fun(i:Nat)(h:i<(aA leaf l).length)(s:AS)=>yI (Γ:=Γ) hG (nodeAt leaf l i) l hl (iB hl hn h).1 (iB hl hn h).2.1 s;have S5:(aV (cJ leaf l)).length=(aA leaf l).length:=(by simp[bz,cJ]);have SC:∀i,i<(aA leaf l).length→(aV (cJ leaf l)).take (i+1)=(aV (cJ leaf l)).take i++[((bZ (nodeAt leaf l i):Nat):Int)]:=by
  intro i hi;rw[List.take_succ_eq_append_getElem (by rw[S5];exact hi)];simp[aV,cJ]
 have LB:(aV (aA leaf l)).length=(aA leaf l).length:=bz _;have YO:∀i,i<(aA leaf l).length→(aV (aA leaf l))[i]? =some ((nodeAt leaf l (i+1):Nat):Int):=by
  intro i hi;simp[aV,nodeAt,List.getD,hi]
 have Ss:nodeAt leaf l 0=2*leaf:=rfl;generalize aV (cJ leaf l)=S at *
 generalize aV (aA leaf l)=W at *
 generalize nodeAt leaf l=D at *
 generalize (aA leaf l).length=k at *
 refine jA ?_;refine jA ?_;refine jB (bE leaf (by omega)) ?_;refine wK fun K hK=>?_;refine jQ fun K hK=>?_;refine ad (j0 _) ?_;rintro r s1 ⟨rfl,rfl⟩;refine jV @aF.eq_1 hK ?_;clear hK K;refine ah ?_;refine aD (fun E s2=>∃(i:Nat)(x:AV),i≤k∧E 15=.sl 1 W.length (W.map aI) .any∧E 16=.v (.int .i64 W.length)∧E 17=.v (.int .i64 i)∧E 1=.v (.int .i64 l)∧E 6=.v (.int .i64 (D i:Nat))∧E 5=x∧cP 1 s1 s2 x i ((S.take i).map aI)∧s1.le s2)
  (fun E _=>k+1-lO (E 5)) ?_ ?_
 ·refine⟨0,bL,Nat.zero_le _,rfl,rfl,rfl,rfl,?_,rfl,cP.nil _ _ _,AS.le.refl _⟩;rw[Ss];simp only[aH,Nc,↓reduceIte]
 ·rintro E1 s2 ⟨i,x,hi,g15,g16,g17,g1,g6,g5,hx,hle⟩ -
  by_cases aY:i<k
  ·have bJ:((i:Nat):Int)<(W.length:Int):=(by omega);have h0:(0:Int)≤((i:Nat):Int):=(by omega);have fb:(List.take 1 (List.drop i (W.map aI)))[0]? =some (AV.v (.int .i64 ((D (i+1):Nat):Int))):=by
    simp[List.getElem?_take,YO i aY,aI]
   refine jB (Ai @g16 (Ai @g17 (decide_eq_true bJ))) ?_;refine wK fun K2 aX=>?_;refine jE ?_;refine ab ?_;refine aX _ _ ?_;clear aX K2;refine wK fun K3 br=>?_;refine ah ?_;refine jB (Ai @g15 (Ai @g17 (Ai @bJ (Ai @h0 @fb)))) ?_;refine jS (Ai @g6 @g1) fun K hK=>?_;refine ad (Dx i aY _) ?_;rintro r s3 ⟨rfl,rfl⟩;refine jR hK ?_;clear hK K;have dM:=SC i aY;refine wK fun K4 eb=>?_;have bG:∀(E:Env)(s3:AS)(x3:AV),E 15=.sl 1 W.length (W.map aI) .any→E 16=.v (.int .i64 W.length)→E 17=.v (.int .i64 i)→E 1=.v (.int .i64 l)→E 8=.v (.int .i64 (D (i+1):Nat))→E 5=x3→cP 1 s1 s3 x3 (i+1) ((S.take (i+1)).map aI)→s1.le s3→K4 E s3:=by
    intro E s3 x3 f15 f16 f17 f1 f8 f5 fx yh;refine eb _ _ ?_;clear eb K4;refine jD @f8 ?_;refine br _ _ ?_;clear br K3;refine jD (Ai @f17 (bp i (by omega))) ?_;refine⟨⟨i+1,x3,aY,f15,f16,rfl,f1,rfl,f5,fx,yh⟩,?_⟩;have m1:lO (E1 5)=i:=by
     rw[g5];rcases hx with⟨rfl,rfl,_⟩|⟨t,e,rfl,_⟩<;>rfl
    have m2:lO (E 5)=i+1:=by
     rw[f5];rcases fx with⟨rfl,h,_⟩|⟨t,e,rfl,_⟩
     ·omega
     ·rfl
    simp only[aH,Nc,↓reduceIte,m1,m2];omega
   clear eb;rcases hx with⟨rfl,fg,rK⟩|⟨t,e,rfl,ht,iJ⟩
   ·refine wE fun K hK=>?_;simp only[↓DN,Qa,Qb,Qc,Qd,Qe,Qf,Qg,Qh,reduceCtorEq,↓reduceIte,Na,Nb,Nc,Nk,Nf,Ng,Nh,Za,Zb,Zc,TT,g5,bL,List.replicate_succ];intro t ht;refine hK _ _ (bG _ _ (.sl 1 1 [.v (.int .i64 ((bZ (D i):Nat):Int))] (.own t 0)) g15 g16 g17 g1 rfl rfl ?_ ?_)
    ·refine .inr ⟨t,0,?_,by simp[AS.bw],aZ hle ht⟩;rw[dM,List.map_append,rK];subst fg;rfl
    ·exact AS.bj hle (aZ hle ht) 0
   ·refine wE fun K hK=>?_;simp only[↓DN,Qa,Qb,Qc,Qd,Qe,Qf,Qg,Qh,reduceCtorEq,↓reduceIte,Na,Nb,Nc,Nk,Nf,Ng,Nh,Za,Zb,Zc,TT,g5,ht,List.replicate_succ];have Bg:(S.take i).length=i:=(by rw[List.length_take];omega);refine⟨by omega,by omega,hK _ _ (bG _ _ (.sl 1 (i+1) ((S.take i).map aI++[.v (.int .i64 ((bZ (D i):Nat):Int))]) (.own t (e+1))) g15 g16 g17 g1 rfl rfl ?_ ?_)⟩
    ·exact .inr ⟨t,e+1,by rw[dM,List.map_append];rfl,by simp[AS.bw],iJ⟩
    ·exact AS.bj hle iJ (e+1)
  ·have bJ:¬((i:Nat):Int)<(W.length:Int):=(by omega);refine jB (Ai @g16 (Ai @g17 (decide_eq_false bJ))) ?_;refine wK fun K2 aX=>?_;refine jF ?_;refine aC ?_;simp only[az,ar,if_true];refine hK _ _ ?_;clear hK aX K2 K;obtain rfl:i=k:=(by omega);refine jB @g5 ?_;refine jI ?_;rw[List.take_of_length_le (by omega)] at hx;refine⟨_,_,?_,hle,rfl,rfl⟩;have:=hx.aB;unfold aF;rwa [S5]
theorem oQ(leaf l i:Nat)(hl:Fit l)(hn:leaf<l)(hi:i<(aA leaf l).length)(s:AS):aj prog Γ 56 [.v (.int .i64 leaf),.v (.int .i64 l),.v (.int .i64 i)] s
  (fun r s'=>r=.v (.int .i64 (bZ (nodeAt leaf l i):Nat))∧s'=s):=by
 refine aa func56 rfl ntmps56 results56 (by simp) ?_;have Gg:=hl.le;have AF:=fw hl hn;have j0:=fun s=>kv (Γ:=Γ) leaf l hl hn s;have Dx:=fun(s:AS)=>tH (Γ:=Γ) (nodeAt leaf l i) l hl (iB hl hn hi).1 (iB hl hn hi).2.1 s;refine jA ?_;refine jB (bE leaf (by omega)) ?_;refine wK fun K hK=>?_;have bG:∀(E:Env)(s3:AS),E 7=.v (.int .i64 (nodeAt leaf l i:Nat))→E 1=.v (.int .i64 l)→s3=s→K E s3:=by
  rintro E s3 f7 f1 rfl;refine hK _ _ ?_;clear hK K;generalize nodeAt leaf l i=D at *
  refine jS (Ai @f7 @f1) fun K hK=>?_;refine ad (Dx _) ?_;rintro r s4 ⟨rfl,rfl⟩;refine jR hK ?_;clear hK K;refine jA ?_;exact jJ
 clear hK;cases i with
 |zero=>
  refine jB (show(decide ((0:Int)<((0:Nat):Int)))=false from rfl) ?_;refine jF ?_;refine ab ?_;exact bG _ _ rfl rfl rfl
 |succ j=>
  have LB:(aV (aA leaf l)).length=(aA leaf l).length:=bz _;have YO:(aV (aA leaf l))[j]? =some ((nodeAt leaf l (j+1):Nat):Int):=by
   simp[aV,nodeAt,List.getD,show j<(aA leaf l).length by omega]
  generalize aV (aA leaf l)=W at *
  have hgt:decide ((0:Int)<((j+1:Nat):Int))=true:=decide_eq_true (by omega);have e1:di .i64 ((j+1:Nat):Int) 1=(j:Int):=(by rw[ti (by omega) (by omega)];omega);have bJ:((j:Nat):Int)<(W.length:Int):=(by omega);have h0:(0:Int)≤((j:Nat):Int):=(by omega);have fb:(List.take 1 (List.drop j (W.map aI)))[0]? =some (AV.v (.int .i64 ((nodeAt leaf l (j+1):Nat):Int))):=by
   simp[List.getElem?_take,YO,aI]
  refine jB @hgt ?_;refine jE ?_;refine jT fun K hK=>?_;refine ad (j0 _) ?_;rintro r s1 ⟨rfl,rfl⟩;refine jN (Ai @aF.eq_1 (Ai @e1 (Ai @bJ (Ai @h0 @fb)))) ?_;exact hK _ _ (bG _ _ rfl rfl rfl)
end Go.Proofs.YtbiefppedlodiaaGreatDoor
namespace Go.AM
open Go
def Jn(l:List af):List UInt8:=(l.map af.text).flatten
def L8(t:List af):List UInt8:=be 1 (aM t)++Jn t
open Go Go.RowKit
variable{P:Program}{Γ:Nat→List AV}{G:Gh}{s:AS}{w:World}{N:Nat}
variable{Γ:Nat→List AV}{s:AS}
namespace Sha
def ei(a b:Nat):Nat:=(a+b)%4294967296
def ml(x n:Nat):Nat:=(x/2^n) ||| ((x*2^(32-n))%4294967296)
def L9(x a b c:Nat):Nat:=(ml x a ^^^ ml x b) ^^^ ml x c
def CM(x a b c:Nat):Nat:=(ml x a ^^^ ml x b) ^^^ (x/2^c)
def GP(a b c d:Nat):Nat:=((a*256+b)*256+c)*256+d
def word(c:List UInt8)(p:List Nat)(i:Nat):Nat:=
  if i<16 then GP ((c.getD (4*i) 0).toNat) ((c.getD (4*i+1) 0).toNat) ((c.getD (4*i+2) 0).toNat) ((c.getD (4*i+3) 0).toNat)
  else ei (ei (ei (CM (p.getD (i-2) 0) 17 19 10) (p.getD (i-7) 0)) (CM (p.getD (i-15) 0) 7 18 3)) (p.getD (i-16) 0)
def mf(c:List UInt8):Nat→List Nat
  |0=>[]
  |n+1=>mf c n++[word c (mf c n) n]
theorem cz(c:List UInt8)(n:Nat):(mf c n).length=n:=by
  induction n with
  |zero=>rfl
  |succ n ih=>simp[mf,ih]
def t1(e f g h k w:Nat):Nat:=ei (ei (ei (ei h (L9 e 6 11 25)) ((e &&& f) ^^^ ((4294967295-e) &&& g))) k) w
def t2(a b c:Nat):Nat:=ei (L9 a 2 13 22) (((a &&& b) ^^^ (a &&& c)) ^^^ (b &&& c))
structure St where
  a:Nat
  b:Nat
  c:Nat
  d:Nat
  e:Nat
  f:Nat
  g:Nat
  h:Nat
def St.step(s:St)(k w:Nat):St:=
  ⟨ei (t1 s.e s.f s.g s.h k w) (t2 s.a s.b s.c),s.a,s.b,s.c,ei s.d (t1 s.e s.f s.g s.h k w),s.e,s.f,s.g⟩
def St.add(s t:St):St:=⟨ei s.a t.a,ei s.b t.b,ei s.c t.c,ei s.d t.d,ei s.e t.e,ei s.f t.f,ei s.g t.g,ei s.h t.h⟩
def St.list(s:St):List Nat:=[s.a,s.b,s.c,s.d,s.e,s.f,s.g,s.h]
structure St.ok(s:St):Prop where
  a:s.a<4294967296
  b:s.b<4294967296
  c:s.c<4294967296
  d:s.d<4294967296
  e:s.e<4294967296
  f:s.f<4294967296
  g:s.g<4294967296
  h:s.h<4294967296
def K:List Nat:=[
  0x428a2f98,0x71374491,0xb5c0fbcf,0xe9b5dba5,0x3956c25b,0x59f111f1,0x923f82a4,0xab1c5ed5,
  0xd807aa98,0x12835b01,0x243185be,0x550c7dc3,0x72be5d74,0x80deb1fe,0x9bdc06a7,0xc19bf174,
  0xe49b69c1,0xefbe4786,0x0fc19dc6,0x240ca1cc,0x2de92c6f,0x4a7484aa,0x5cb0a9dc,0x76f988da,
  0x983e5152,0xa831c66d,0xb00327c8,0xbf597fc7,0xc6e00bf3,0xd5a79147,0x06ca6351,0x14292967,
  0x27b70a85,0x2e1b2138,0x4d2c6dfc,0x53380d13,0x650a7354,0x766a0abb,0x81c2c92e,0x92722c85,
  0xa2bfe8a1,0xa81a664b,0xc24b8b70,0xc76c51a3,0xd192e819,0xd6990624,0xf40e3585,0x106aa070,
  0x19a4c116,0x1e376c08,0x2748774c,0x34b0bcb5,0x391c0cb3,0x4ed8aa4a,0x5b9cca4f,0x682e6ff3,
  0x748f82ee,0x78a5636f,0x84c87814,0x8cc70208,0x90befffa,0xa4506ceb,0xbef9a3f7,0xc67178f2]
def H0:St:=⟨0x6a09e667,0xbb67ae85,0x3c6ef372,0xa54ff53a,0x510e527f,0x9b05688c,0x1f83d9ab,0x5be0cd19⟩
def rounds(w:List Nat)(s:St):Nat→St
  |0=>s
  |n+1=>(rounds w s n).step (K.getD n 0) (w.getD n 0)
def mix(s:St)(c:List UInt8):St:=s.add (rounds (mf c 64) s 64)
def nE(l:List UInt8)(i:Nat):List UInt8:=(l.drop (64*i)).take 64
def hash(l:List UInt8):Nat→St
  |0=>H0
  |n+1=>mix (hash l n) (nE l n)
def gA(n:Nat):Nat:=(119-n%64)%64
def wF(n:Nat):List UInt8:=[UInt8.ofNat (8*n/2^56),UInt8.ofNat (8*n/2^48),UInt8.ofNat (8*n/2^40),UInt8.ofNat (8*n/2^32),UInt8.ofNat (8*n/2^24),UInt8.ofNat (8*n/2^16),UInt8.ofNat (8*n/2^8),UInt8.ofNat (8*n)]
def pad(l:List UInt8):List UInt8:=l++(128::(List.replicate (gA l.length) 0++wF l.length))
theorem rX(l:List UInt8):(pad l).length=l.length+9+gA l.length:=by simp[pad,wF];omega
theorem H5(l:List UInt8):(pad l).length%64=0:=by rw[rX,gA];omega
def be(x:Nat):List UInt8:=[UInt8.ofNat (x/2^24),UInt8.ofNat (x/2^16),UInt8.ofNat (x/2^8),UInt8.ofNat x]
def St.bytes(s:St):List UInt8:=be s.a++be s.b++be s.c++be s.d++be s.e++be s.f++be s.g++be s.h
def sum(l:List UInt8):List UInt8:=(hash (pad l) ((pad l).length/64)).bytes
theorem de(l:List UInt8):(sum l).length=32:=rfl
theorem fD(a b:Nat):ei a b<4294967296:=Nat.mod_lt _ (by decide)
theorem cj{x:Nat}(n:Nat)(h:x<4294967296):ml x n<4294967296:=
  Nat.or_lt_two_pow (n:=32) (Nat.lt_of_le_of_lt (Nat.div_le_self _ _) h) (Nat.mod_lt _ (by decide))
theorem Ph(a b c d:UInt8):GP a.toNat b.toNat c.toNat d.toNat<4294967296:=by
  have:=a.toNat_lt;have:=b.toNat_lt;have:=c.toNat_lt;have:=d.toNat_lt;simp only[GP];omega
theorem Pj(c:List UInt8)(p:List Nat)(i:Nat):word c p i<4294967296:=by
  unfold word;split
  · exact Ph _ _ _ _
  · exact fD _ _
theorem S6(c:List UInt8)(n:Nat):∀x∈mf c n,x<4294967296:=by
  induction n with
  |zero=>intro x hx;simp[mf] at hx
  |succ n ih=>
    intro x hx;simp only[mf,List.mem_append,List.mem_singleton] at hx;rcases hx with hx|rfl
    · exact ih x hx
    · exact Pj _ _ _
theorem mI(c:List UInt8)(n i:Nat):(mf c n).getD i 0<4294967296:=by
  rw[List.getD_eq_getElem?_getD];cases h:(mf c n)[i]? with
  |none=>simp
  |some x=>exact S6 c n x (List.mem_of_getElem? h)
theorem YP:H0.ok:=by constructor<;>decide
theorem St.ok.step{s:St}(h:s.ok)(k w:Nat):(s.step k w).ok:=⟨fD _ _,h.a,h.b,h.c,fD _ _,h.e,h.f,h.g⟩
theorem St.ok.add(s t:St):(s.add t).ok:=⟨fD _ _,fD _ _,fD _ _,fD _ _,fD _ _,fD _ _,fD _ _,fD _ _⟩
theorem uY{w:List Nat}{s:St}(h:s.ok):∀n,(rounds w s n).ok
  |0=>h
  |n+1=>(uY h n).step _ _
theorem S7(s:St)(c:List UInt8):(mix s c).ok:=St.ok.add _ _
theorem H6(l:List UInt8):∀n,(hash l n).ok
  |0=>YP
  |n+1=>S7 _ _
end Sha
namespace Mac
def key(k:List UInt8):List UInt8:=if 64<k.length then Sha.sum k else k
def fill(k:List UInt8):List UInt8:=k++List.replicate (64-k.length) 0
def turn(x:UInt8)(l:List UInt8):List UInt8:=l.map fun c=>c ^^^ x
def inner(k l:List UInt8):List UInt8:=Sha.sum (turn 54 (fill (key k))++l)
def tag(k l:List UInt8):List UInt8:=Sha.sum (turn 92 (fill (key k))++inner k l)
theorem Ma(k:List UInt8):(key k).length≤64:=by
  unfold key;split
  · rw[Sha.de];decide
  · omega
theorem qb(k:List UInt8)(h:k.length≤64):(fill k).length=64:=by simp[fill];omega
theorem nz(x:UInt8)(l:List UInt8):(turn x l).length=l.length:=by simp[turn]
theorem mF(k l:List UInt8):(tag k l).length=32:=Sha.de _
theorem Br(k l:List UInt8):(inner k l).length=32:=Sha.de _
def part(x:UInt8)(l:List UInt8)(i:Nat):List UInt8:=turn x (l.take i)++l.drop i
theorem Jo(x:UInt8)(l:List UInt8):part x l 0=l:=by simp[part,turn]
theorem Mb(x:UInt8)(l:List UInt8)(i:Nat)(h:l.length≤i):part x l i=turn x l:=by
  rw[part,List.take_of_length_le h,List.drop_eq_nil_of_le h,List.append_nil]
theorem EM(x:UInt8)(l:List UInt8)(i:Nat):(part x l i).length=l.length:=by simp[part,turn];omega
theorem Mc(x:UInt8)(l:List UInt8)(i:Nat)(h:i<l.length):List.drop i ((part x l i).map ai)=ai (l.getD i 0)::List.drop (i+1) ((part x l i).map ai):=by
  have hl:((part x l i).map ai).length=l.length:=(by rw[List.length_map,EM]);rw[List.drop_eq_getElem_cons (by omega)];congr 1;rw[List.getElem_map];congr 1;simp only[part];rw[List.getElem_append_right (by simp[turn];omega)];have e:(turn x (l.take i)).length=i:=(by simp[turn];omega);simp only[e,Nat.sub_self,List.getElem_drop,Nat.add_zero];simp[List.getD_eq_getElem?_getD,h]
theorem Md(x:UInt8)(l:List UInt8)(i:Nat)(h:i<l.length):((part x l i).map ai).set i (ai (l.getD i 0 ^^^ x))=(part x l (i+1)).map ai:=by
  rw[←List.map_set];congr 1;simp only[part];have e:(turn x (l.take i)).length=i:=(by simp[turn];omega);rw[List.set_append_right _ _ (by omega),e,Nat.sub_self,List.drop_eq_getElem_cons h,List.set_cons_zero,List.take_succ_eq_append_getElem h];simp only[turn,List.map_append,List.map_cons,List.map_nil,List.append_assoc,List.cons_append,List.nil_append,List.getD_eq_getElem?_getD,List.getElem?_eq_getElem h,Option.getD_some]
theorem yR(a b:UInt8):Dm .u8 (a.toNat:Int) (b.toNat:Int)=(((a ^^^ b).toNat:Nat):Int):=by
  rw[FZ (k:=.u8) rfl a.toNat b.toNat (by simpa[IntKind.bits] using a.toNat_lt) (by simpa[IntKind.bits] using b.toNat_lt),UInt8.toNat_xor]
theorem gB:∀(ds cs:List AV)(off:Nat),off+ds.length≤cs.length→bn cs off ds=cs.take off++ds++cs.drop (off+ds.length)
  |[],cs,off,h=>by simp[bn]
  |d::ds,cs,off,h=>by
    rw[bn,gB ds (cs.set off d) (off+1) (by simp at h⊢;omega)];simp only[List.length_cons] at h;have h1:(cs.set off d).take (off+1)=cs.take off++[d]:=by
      rw[List.take_succ_eq_append_getElem (by simp;omega),List.getElem_set_self,List.take_set_of_le (Nat.le_refl off)]
    have h2:(cs.set off d).drop (off+1+ds.length)=cs.drop (off+(ds.length+1)):=by
      rw[List.drop_set_of_lt (by omega)];congr 1;omega
    rw[h1,h2,List.length_cons];simp
theorem GQ(k:List UInt8)(h:k.length≤64):bn (List.replicate 64 (ai 0)) 0 (k.map ai)=(fill k).map ai:=by
  rw[gB _ _ _ (by simpa using h)];simp only[List.take_zero,List.nil_append,Nat.zero_add,List.length_map,fill,List.map_append,List.map_replicate,List.drop_replicate]
end Mac
open Go
end Go.AM
namespace Go.AM
open Go
theorem LF(t:List af)(i:Nat)(x:af)(j:Nat):nd (t.set i x) j=if i=j∧i<t.length then x else nd t j:=by
  unfold nd;simp only[List.getD_eq_getElem?_getD,List.getElem?_set];by_cases h:i=j
  · by_cases k:i<t.length
    · rw[if_pos h,if_pos k,if_pos ⟨h,k⟩];rfl
    · rw[if_pos h,if_neg k,if_neg (fun q=>k q.2)];subst h;rw[List.getElem?_eq_none (by omega)]
  · rw[if_neg h,if_neg (fun q=>h q.1)]
theorem yS{t:List af}{L:Nat}(hL:aM t=L)(i:Int):eg t i↔0≤i∧i<(L:Int)∧(nd t (2*i.toNat)).kind=1:=by unfold eg;rw[hL]
theorem lW{t:List af}{L:Nat}(hL:aM t=L)(i:Nat):eg t (i:Int)↔i<L∧(nd t (2*i)).kind=1:=by
  rw[yS hL,Int.toNat_natCast];exact⟨fun h=>⟨by omega,h.2.2⟩,fun h=>⟨by omega,by omega,h.2⟩⟩
theorem yz{t:List af}{L:Nat}(hL:Fit L)(hlen:t.length=2*L-1):bd t↔
    (∀i,i<2*L-1→(nd t i).right∧((nd t i).kind=0∨((nd t i).kind=1↔i%2=0))∧∀u∈(nd t i).ig,(lo i:Int)≤u∧u≤(hi i:Int)∧0≤u∧u<(L:Int)∧(nd t (2*u.toNat)).kind=1)∧
    (∀a b,a<b→b<L→(nd t (2*a)).kind=1→(nd t (2*b)).kind=1→(nd t (2*b)).name≠(nd t (2*a)).name)∧
    (L=1∨∃j,L/2≤j∧j<L∧(nd t (2*j)).kind=1):=by
  have hl:=GG hL hlen;have hb:=hL.le;have hh:gJ t=L:=(by unfold gJ;omega);have Gi:∀i,i<2*L-1→ju (i:Int)=((lo i:Int),(hi i:Int)):=by
    intro i aY;unfold ju;rw[if_pos (by omega),Int.toNat_natCast]
  have xcp:0<fS (eg t) (L/2) (L-L/2)↔∃j,L/2≤j∧j<L∧(nd t (2*j)).kind=1:=by
    rw[yD];constructor
    · rintro⟨j,h1,h2⟩;have:=(lW hl _).1 h2;exact⟨L/2+j,by omega,this.1,this.2⟩
    · rintro⟨j,h1,h2,h3⟩;refine⟨j-L/2,by omega,?_⟩;rw[show L/2+(j-L/2)=j by omega];exact(lW hl _).2 ⟨h2,h3⟩
  unfold bd;rw[hl,xcp];constructor
  · rintro⟨_,h2,h3⟩;refine⟨fun i aY=>?_,fun a b zy hbL ha Km=>?_,h3⟩
    · obtain⟨⟨k1,k2,k3⟩,_⟩:=h2 i (by omega);refine⟨k1,k2,fun u hu=>?_⟩;obtain⟨q1,q2,q3⟩:=k3 u hu;rw[Gi i aY] at q1 q2;have:=(yS hl u).1 q3;exact⟨q1,q2,this.1,this.2.1,this.2.2⟩
    · intro e;have:=(h2 (2*a) (by omega)).2 (by omega) (by rw[show 2*a/2=a by omega];exact(lW hl a).2 ⟨by omega,ha⟩) b (by omega) (by omega);exact this ⟨(lW hl b).2 ⟨hbL,Km⟩,e⟩
  · rintro⟨h1,h2,h3⟩;refine⟨by omega,fun i aY=>⟨⟨?_,?_,?_⟩,?_⟩,h3⟩
    · exact(h1 i (by omega)).1
    · exact(h1 i (by omega)).2.1
    · intro u hu;obtain⟨q1,q2,q3,q4,q5⟩:=(h1 i (by omega)).2.2 u hu;rw[Gi i (by omega)];exact⟨q1,q2,(yS hl u).2 ⟨q3,q4,q5⟩⟩
    · intro he hm j hj hij ⟨hmj,hn⟩;have h5:=(lW hl _).1 hm;have h6:=(lW hl _).1 hmj;rw[show 2*(i/2)=i by omega] at h5;refine h2 (i/2) j hij h6.1 (by rw[show 2*(i/2)=i by omega];exact h5.2) h6.2 ?_;rw[show 2*(i/2)=i by omega];exact hn
theorem Jb{l:List Int}(h:l.Pairwise (· < ·))(k:∀x∈l,0≤x∧x<32):iW l:=by
  intro i hi;refine tg hi (k _ (List.getElem_mem hi)).1 (k _ (List.getElem_mem hi)).2 (fun h0=>?_);exact List.pairwise_iff_getElem.1 h (i-1) i (by omega) hi (by omega)
open Go Go.RowKit
variable{P:Program}{Γ:Nat→List AV}{s:AS}
def zN:List AV:=[.v (.int .i64 0),.v (.slice none 0 0),.v (.int .u64 0),.v (.slice none 0 0),.v (.slice none 0 0)]
def pN:af×AV:=(af.gH,bL)
theorem Jp{R a b:List AV}{off:Nat}(hl:a.length=b.length)(h:off+a.length≤R.length)(w:fe.aB a b):fe.aB (bn R off a) (bn R off b):=by
  rw[Mac.gB _ _ _ h,Mac.gB _ _ _ (by omega),hl];exact fe.aB.append (fe.aB.append (.refl _) w) (.refl _)
theorem AS.Jq{Γ:Nat→List AV}{s:AS}{O:Nat}{a b:List AV}(w:fe.aB a b):AS.tells Γ (s.set O a) (s.set O b):=by
  have:=AS.ll (Γ:=Γ) (AS.ae s O a) w;rwa [AS.set_set] at this
end Go.AM
namespace Go.Proofs.YtbiefppedlodiaaGreatDoor
open Go Go.AM Go.Proofs Tryz
variable{Γ:Nat→List AV}
theorem Me{α:Type}{a b:List α}{i:Nat}(ha:i<a.length)(hb:i<b.length)(h:a.take i=b.take i)(he:a[i]=b[i]):a.take (i+1)=b.take (i+1):=by
 rw[List.take_succ_eq_append_getElem ha,List.take_succ_eq_append_getElem hb,h,he]
theorem GR{α:Type}{a b:List α}{i:Nat}(hl:a.length=b.length)(ha:¬i<a.length)(h:a.take i=b.take i):a=b:=by
 rwa [List.take_of_length_le (by omega),List.take_of_length_le (by omega)] at h
theorem Cw(a b:List af)(ha:dE a)(s:AS):aj prog Γ 13 [aW a,aW b] s (fun r s'=>r=.v (.bool (decide (a=b)))∧s'=s):=by
 refine aa func13 rfl ntmps13 results13 (by simp) ?_;have YQ:=fun i(h:i<a.length)=>mV (c:=af.cells) (k:=5) (fun _=>rfl) h;have YR:=fun i(h:i<b.length)=>mV (c:=af.cells) (k:=5) (fun _=>rfl) h;have hal:=ha.1;unfold aW;generalize aK af.cells a=XA at *
 generalize aK af.cells b=XB at *
 refine jA ?_;refine wK fun K hK=>?_;by_cases hl:a.length=b.length
 ·refine jB (KY hl) ?_;refine jF ?_;refine ab ?_;refine hK _ _ ?_;clear hK K;refine wK fun K hK=>?_;refine jA ?_;refine ah ?_;refine aD (fun E s2=>∃i:Nat,i≤a.length∧E 5=.v (.int .i64 i)∧E 0=.sl 5 a.length XA .any∧E 1=.sl 5 b.length XB .any∧a.take i=b.take i∧s2=s)
   (fun E _=>match E 5 with |.v (.int _ i)=>a.length-i.toNat|_=>0) ?_ ?_
  ·exact⟨0,Nat.zero_le _,rfl,rfl,rfl,by simp,rfl⟩
  ·rintro E1 s2 ⟨i,hi,g5,g0,g1,bT,rfl⟩ -
   refine wK fun K2 aX=>?_;by_cases aY:i<a.length
   ·refine jB (Ai @g5 (Ai @g0 (Ai @aq (decide_eq_true aY)))) ?_;refine jE ?_;refine ab ?_;refine aX _ _ ?_;clear aX K2;refine wK fun K3 br=>?_;refine ah ?_;have fj:i<b.length:=(by omega);have Pk:=YQ i aY;have Ag:=YR i fj;have cl:(0:Int)≤(i:Int):=(by omega);have CN:a[i]=b[i]→a.take (i+1)=b.take (i+1):=Me aY fj bT;have qC:a[i]≠b[i]→decide (a=b)=false:=fun h=>decide_eq_false fun q=>h (by subst q;rfl);have vS:=fun s=>oO (Γ:=Γ) a[i] b[i] (ha.2 _ (List.getElem_mem aY)).1 s;generalize a[i]=y1 at *
    generalize b[i]=y2 at *
    obtain⟨P,hP⟩:∃P,P=decide (y1=y2):=⟨_,rfl⟩;rw[←hP] at vS;obtain⟨nk,nm,ny,jj,nu⟩:=y1;obtain⟨mk,mm,my,mpa,mu⟩:=y2;unfold af.cells at Pk Ag vS;simp only at Pk Ag vS;unfold aF at Pk Ag vS;refine ba T.mixed [8] (by kernel_rfl) ?_;intro K hK;refine jN (Ai @g5 (Ai @g0 (Ai @g1 (Ai @aq (Ai @aY (Ai @fj (Ai @cl (Ai @Pk @Ag)))))))) ?_;refine ad (vS _) ?_;rintro r s3 ⟨rfl,rfl⟩;cases P with
    |true=>
     refine jR hK ?_;clear hK K;refine jF ?_;refine ab ?_;simp only[ar,az,if_true,if_false];refine br _ _ ?_;clear br K3;refine jD (Ai @g5 (bp i (by omega))) ?_;refine⟨⟨i+1,by omega,rfl,g0,g1,CN (of_decide_eq_true hP.symm),rfl⟩,?_⟩;simp only[g5,aH,↓reduceIte];omega
    |false=>
     refine jR hK ?_;clear hK K;refine jE ?_;refine jA ?_;refine jI ?_;rw[qC (of_decide_eq_false hP.symm)];exact jW ⟨rfl,rfl⟩
   ·refine jB (Ai @g5 (Ai @g0 (Ai @aq (decide_eq_false aY)))) ?_;refine jF ?_;refine aC ?_;simp only[az,ar,if_true];refine hK _ _ ?_;clear hK aX K2 K;have zy:a=b:=GR hl aY bT;refine jA ?_;refine jI ?_;rw[decide_eq_true zy];exact jW ⟨rfl,rfl⟩
 ·refine jB (KX hl) ?_;refine jE ?_;refine jA ?_;refine jI ?_;rw[decide_eq_false (fun q=>hl (by rw[q]))];exact jW ⟨rfl,rfl⟩
abbrev wV(x:Nat):AV:=.v (.int .u32 (x:Int))
theorem tP(a:Nat)(h:a<32):Dn .i64 (a:Int)= -(a:Int):=by
 rw[Dn,IntWalk.i64_in _ (by omega)];omega
theorem Jr(a:Nat)(h0:0<a)(h:a<32):mg .u64 (cG .u64 (-(a:Int))) 31=((32-a:Nat):Int):=by
 have e:cG .u64 (-(a:Int))=((18446744073709551616-a:Nat):Int):=by
  rw[cG,kt rfl];simp only[IntKind.bits];omega
 rw[e,show(31:Int)=((31:Nat):Int) from rfl,rB rfl _ _ (by simp only[IntKind.bits];omega) (by decide)];congr 1;have :(18446744073709551616-a) &&& 31=(18446744073709551616-a)%2^5:=Nat.and_two_pow_sub_one_eq_mod _ 5;rw[this];omega
theorem mK(a:Nat):¬((a:Nat):Int)<0:=by omega
theorem Pl(a:Nat)(h0:0<a)(h:a<32):di .u64 32 ((32-a:Nat):Int)=((a:Nat):Int):=by
 have:=AQ (k:=.u64) rfl 32 (32-a) (by omega) (by decide);rw[show(32:Int)=((32:Nat):Int) from rfl,this];congr 1;omega
theorem Pm(x a:Nat)(hx:x<4294967296)(h0:0<a)(h:a<32):FJ .u32 (kj .u32 (x:Int) ((32-a:Nat):Int)) (eJ .u32 (x:Int) ((a:Nat):Int))=((Sha.ml x a:Nat):Int):=by
 rw[rC rfl,hJ];rw[AR rfl _ _ (Nat.mod_lt _ (by decide)) (by simp only[IntKind.bits];exact Nat.lt_of_le_of_lt (Nat.div_le_self _ _) hx)];rw[Sha.ml,Nat.or_comm];simp only[IntKind.bits];rw[Nat.min_eq_left (by omega),Nat.min_eq_left (by omega)]
theorem pb(a b:Nat)(ha:a<4294967296)(hb:b<4294967296):Dm .u32 (a:Int) (b:Int)=((a ^^^ b:Nat):Int):=FZ rfl a b ha hb
theorem Am(a b:Nat)(ha:a<4294967296)(hb:b<4294967296):mg .u32 (a:Int) (b:Int)=((a &&& b:Nat):Int):=rB rfl a b ha hb
theorem YS(a b:Nat)(ha:a<4294967296)(hb:b<4294967296):FJ .u32 (a:Int) (b:Int)=((a ||| b:Nat):Int):=AR rfl a b ha hb
theorem tQ(a b:Nat):ec .u32 (a:Int) (b:Int)=((Sha.ei a b:Nat):Int):=uv rfl a b
theorem YT(a:Nat)(ha:a<4294967296):J1 .u32 (a:Int)=((4294967295-a:Nat):Int):=RO rfl a ha
theorem uZ(a c:Nat)(hc:c<32):eJ .u32 (a:Int) ((c:Nat):Int)=((a/2^c:Nat):Int):=by
 rw[hJ];simp only[IntKind.bits];rw[Nat.min_eq_left (by omega)]
theorem Mf(a c:Nat)(hc:c<32):kj .u32 (a:Int) ((c:Nat):Int)=(((a*2^c)%4294967296:Nat):Int):=by
 rw[rC rfl];simp only[IntKind.bits];rw[Nat.min_eq_left (by omega)]
theorem lX(x a:Nat)(hx:x<4294967296)(h0:0<a)(h:a<32)(s:AS):
  aj prog Γ 250 [wV x,.v (.int .i64 (-(a:Int)))] s (fun r s'=>r=wV (Sha.ml x a)∧s'=s):=by
 refine aa func250 rfl ntmps250 results250 (by simp) ?_;refine jA ?_;refine jB (Jr a h0 h) ?_;refine jB (Ai @mK (Ai (Pl a h0 h) (Pm x a hx h0 h))) ?_;refine jI ?_;exact⟨_,s,AV.aB.refl _,AS.le.refl s,rfl,rfl⟩
theorem tR(x a b c:Nat)(hx:x<4294967296)(ha0:0<a)(ha:a<32)(YU:0<b)(hb:b<32)(Np:0<c)(hc:c<32)(s:AS):
  aj prog Γ 234 [wV x,.v (.int .i64 (a:Int)),.v (.int .i64 (b:Int)),.v (.int .i64 (c:Int))] s (fun r s'=>r=wV (Sha.L9 x a b c)∧s'=s):=by
 refine aa func234 rfl ntmps234 results234 (by simp) ?_;refine jA ?_;refine jS (tP a ha) fun K hK=>?_;refine ad (lX x a hx ha0 ha _) ?_;rintro r s1 ⟨rfl,rfl⟩;refine jN (tP b hb) ?_;refine ad (lX x b hx YU hb _) ?_;rintro r s2 ⟨rfl,rfl⟩;refine jN (Ai (tP c hc) (pb _ _ (Sha.cj a hx) (Sha.cj b hx))) ?_;refine ad (lX x c hx Np hc _) ?_;rintro r s3 ⟨rfl,rfl⟩;refine jV (pb _ _ (Nat.xor_lt_two_pow (n:=32) (Sha.cj a hx) (Sha.cj b hx)) (Sha.cj c hx)) hK ?_;clear hK K;exact jJ
theorem rh(x a b c:Nat)(hx:x<4294967296)(ha0:0<a)(ha:a<32)(YU:0<b)(hb:b<32)(Np:0<c)(hc:c<32)(s:AS):
  aj prog Γ 249 [wV x,.v (.int .i64 (a:Int)),.v (.int .i64 (b:Int)),.v (.int .i64 (c:Int))] s (fun r s'=>r=wV (Sha.CM x a b c)∧s'=s):=by
 refine aa func249 rfl ntmps249 results249 (by simp) ?_;refine jA ?_;refine ba T.mixed [3,7] (by kernel_rfl) ?_;intro K hK;refine jN (tP a ha) ?_;refine ad (lX x a hx ha0 ha _) ?_;rintro r s1 ⟨rfl,rfl⟩;refine jN (tP b hb) ?_;refine ad (lX x b hx YU hb _) ?_;rintro r s2 ⟨rfl,rfl⟩;refine jV (Ai (pb _ _ (Sha.cj a hx) (Sha.cj b hx)) (Ai @mK (Ai (uZ x c hc) (pb _ _ (Nat.xor_lt_two_pow (n:=32) (Sha.cj a hx) (Sha.cj b hx)) (Nat.lt_of_le_of_lt (Nat.div_le_self x (2^c)) hx))))) hK ?_;clear hK K;exact jJ
theorem Js(a:Nat)(h:a<32):di .i64 32 ((a:Nat):Int)=((32-a:Nat):Int):=by
 rw[bR (by omega)];omega
theorem Jt(x a:Nat)(hx:x<4294967296)(h0:0<a)(h:a<32):FJ .u32 (eJ .u32 (x:Int) ((a:Nat):Int)) (kj .u32 (x:Int) ((32-a:Nat):Int))=((Sha.ml x a:Nat):Int):=by
 rw[Mf x (32-a) (by omega),uZ x a h,YS _ _ (Nat.lt_of_le_of_lt (Nat.div_le_self _ _) hx) (Nat.mod_lt _ (by decide)),Sha.ml]
theorem dF(x a:Nat)(hx:x<4294967296)(h0:0<a)(h:a<32)(s:AS):
  aj prog Γ 210 [wV x,.v (.int .i64 (a:Int))] s (fun r s'=>r=wV (Sha.ml x a)∧s'=s):=by
 refine aa func210 rfl ntmps210 results210 (by simp) ?_;refine jA ?_;refine ba T.mixed [] (by kernel_rfl) ?_;intro K hK;refine jV (Ai @mK (Ai (Js a h) (Jt x a hx h0 h))) hK ?_;clear hK K;refine jI ?_;exact⟨_,s,AV.aB.refl _,AS.le.refl s,rfl,rfl⟩
theorem GS(s:AS):
  aj prog Γ 208 [] s (fun r s'=>r=.sl 1 64 (Sha.K.map wV) .no∧s'=s):=by
 refine aa func208 rfl ntmps208 results208 (by simp) ?_;refine jA ?_;refine jA ?_;refine jI ?_;exact⟨_,s,AV.NX rfl,AS.le.refl s,rfl,rfl⟩
end Go.Proofs.YtbiefppedlodiaaGreatDoor
