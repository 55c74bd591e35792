/- Contracts of functions, each walked once; each theorem states its conditions. -/
import Derived.Test.YtbiefppedlodiaaGreatDoorAMp6
import Derived.Test.YtbiefppedlodiaaGreatDoorW1
import Derived.Test.YtbiefppedlodiaaGreatDoorW2
import Derived.Test.YtbiefppedlodiaaGreatDoorAMp5
set_option linter.unusedSimpArgs false
set_option linter.unusedVariables false
open Nat renaming reduceLT → Na, reduceLeDiff → Nb, reduceEqDiff → Nc, reduceAdd → Nk, reduceMul → Nf, reducePow → Ng, reduceSub → Nh, reduceBEq → Nz
open Int renaming reduceLT → Za, reduceLE → Zb, reduceToNat → Zc
open And renaming intro → Ai
open Go.AM renaming ashift → Qa, aconv → Qb, aindexAddr → Qc, aindex → Qd, aslice → Qe, abuiltin → Qf, awp_reg_seq → wS, awp_reg_end → wE, awp_seq_k → wK, awp_cond_k → wC
open Go.AM.AV renaming cells → Qg, one → Qh
set_option maxRecDepth 100000
set_option maxHeartbeats 8000000
namespace Go.Proofs.YtbiefppedlodiaaGreatDoor
open Go Go.AM Go.Proofs Tryz
variable{Γ:Nat→List AV}
theorem ch(n:Nat)(s:AS):aj prog Γ 44 [.v (.int .u64 n)] s (fun r s'=>r=.v (.bool (decide (2≤(n:Int))&&decide ((n:Int)≤2305843009213693949)))∧s'=s):=by
 refine aa func44 rfl ntmps44 results44 (by simp) ?_;rcases ff2 (decide (2≤(n:Int))) (decide ((n:Int)≤2305843009213693949)) with hd|hd|hd;all_goals
  refine jA ?_;refine jB @hd ?_;refine jI ?_;refine jW ⟨?_,rfl⟩;simp only[hd,Bool.and_true,Bool.true_and,Bool.false_and,Bool.and_false]
theorem nw(n:Nat)(s:AS):aj prog Γ 53 [.v (.int .u64 n)] s (fun r s'=>r=.v (.bool (decide (2≤(n:Int))&&decide ((n:Int)≤2305843009213693949)))∧s'=s):=by
 refine aa func53 rfl ntmps53 results53 (by simp) ?_;rcases ff2 (decide (2≤(n:Int))) (decide ((n:Int)≤2305843009213693949)) with hd|hd|hd;all_goals
  refine jA ?_;refine jB @hd ?_;refine jI ?_;refine jW ⟨?_,rfl⟩;simp only[hd,Bool.and_true,Bool.true_and,Bool.false_and,Bool.and_false]
theorem dg(a b:List UInt8)(s:AS):aj prog Γ 62 [al a .any,al b .any] s (fun r s'=>r=.v (.bool (decide (a=b)))∧s'=s):=by
 refine aa func62 rfl ntmps62 results62 (by simp) ?_;refine jA ?_;refine jB @sR ?_;exact jJ
theorem rf{a b:Nat}(h:a=b):(((a:Int) != (b:Int)))=false:=by subst h;simp
theorem tM{a b:Nat}(h:a≠b):(((a:Int) != (b:Int)))=true:=by simp;omega
theorem gz{a b:Int}(h:a=b):(a != b)=false:=by subst h;simp
theorem fT{a b:Int}(h:a≠b):(a != b)=true:=by simpa using h
theorem tN(a b:List Int)(hl:a.length≤2^61)(s:AS):aj prog Γ 231 [aF a .any,aF b .any] s (fun r s'=>r=.v (.bool (decide (a=b)))∧s'=s):=by
 refine aa func231 rfl ntmps231 results231 (by simp) ?_;unfold aF;refine jA ?_;refine wK fun K hK=>?_;by_cases h0:a.length=b.length
 ·refine jB (rf h0) ?_;refine jF ?_;refine ab ?_;refine hK _ _ ?_;clear hK K;refine wK fun K hK=>?_;refine jA ?_;refine ah ?_;refine aD (fun E s1=>∃i:Nat,i≤a.length∧E 13=.v (.int .i64 i)∧E 12=.v (.int .i64 a.length)∧E 0=.sl 1 a.length (a.map aI) .any∧E 1=.sl 1 b.length (b.map aI) .any∧a.take i=b.take i∧s1=s)
   (fun E _=>match E 13 with |.v (.int _ i)=>a.length-i.toNat|_=>0) ?_ ?_
  ·exact⟨0,Nat.zero_le _,by simp[aH],by simp[aH],by simp[aH,bC],by simp[aH,bC],rfl,rfl⟩
  ·rintro E1 s1 ⟨i,hi,LY,zX,O8,h1,he,rfl⟩ -
   by_cases aY:i<a.length
   ·have LH:i<b.length:=(by omega);refine jB (Ai @LY (Ai @zX (Ai @aq (decide_eq_true aY)))) ?_;refine wK fun K2 aX=>?_;refine jE ?_;refine ab ?_;refine aX _ _ ?_;clear aX K2;refine wK fun K3 br=>?_;refine ah ?_;refine jB @LY ?_;have cl:(0:Int)≤(i:Int):=(by omega);have cx:=ea aY;have YH:=ea LH;by_cases hx:a[i]=b[i]
    ·refine ba T.mixed [] (by kernel_rfl) ?_;intro K hK;refine jV (Ai @LY (Ai @O8 (Ai @h1 (Ai @cl (Ai @aq (Ai @aY (Ai @LH (Ai @cx (Ai @YH (gz hx)))))))))) hK ?_;clear hK K;refine jF ?_;refine ab ?_;simp only[ar,az,if_true,if_false];refine br _ _ ?_;clear br K3;refine jD (Ai @LY (dZ i (by omega))) ?_;refine⟨⟨i+1,by omega,rfl,zX,O8,h1,te aY LH he hx,rfl⟩,?_⟩;simp only[LY,aH,↓reduceIte];omega
    ·refine ba T.mixed [] (by kernel_rfl) ?_;intro K hK;refine jV (Ai @LY (Ai @O8 (Ai @h1 (Ai @cl (Ai @aq (Ai @aY (Ai @LH (Ai @cx (Ai @YH (fT hx)))))))))) hK ?_;clear hK K;refine jE ?_;refine jA ?_;refine a8 ?_;simp only[az,ar];simp only[cf,bt,bD,c7,List.toList_toArray,↓bf];try simp only[UP,DF,Nc,↓reduceIte,DT]
     refine jW ⟨?_,rfl⟩;rw[decide_eq_false];intro e;subst e;exact hx rfl
   ·refine jB (Ai @LY (Ai @zX (Ai @aq (decide_eq_false aY)))) ?_;refine wK fun K2 aX=>?_;refine jF ?_;refine aC ?_;simp only[az,ar,if_true];refine hK _ _ ?_;clear hK aX K K2;refine jA ?_;refine jI ?_;refine jW ⟨?_,rfl⟩;rw[List.take_of_length_le (by omega),List.take_of_length_le (by omega)] at he;rw[decide_eq_true he]
 ·refine jB (tM h0) ?_;refine jE ?_;refine jA ?_;refine jI ?_;refine jW ⟨?_,rfl⟩;rw[decide_eq_false (fun e=>h0 (by rw[e]))];try rfl
theorem Af(a b:List Int)(hl:a.length≤2^61)(s:AS):aj prog Γ 123 [aF a .any,aF b .any] s (fun r s'=>r=.v (.bool (decide (a=b)))∧s'=s):=by
 refine aa func123 rfl ntmps123 results123 (by simp) ?_;unfold aF;refine jA ?_;refine wK fun K hK=>?_;by_cases h0:a.length=b.length
 ·refine jB (rf h0) ?_;refine jF ?_;refine ab ?_;refine hK _ _ ?_;clear hK K;refine wK fun K hK=>?_;refine jA ?_;refine ah ?_;refine aD (fun E s1=>∃i:Nat,i≤a.length∧E 5=.v (.int .i64 i)∧E 0=.sl 1 a.length (a.map aI) .any∧E 1=.sl 1 b.length (b.map aI) .any∧a.take i=b.take i∧s1=s)
   (fun E _=>match E 5 with |.v (.int _ i)=>a.length-i.toNat|_=>0) ?_ ?_
  ·exact⟨0,Nat.zero_le _,by simp[aH],by simp[aH,bC],by simp[aH,bC],rfl,rfl⟩
  ·rintro E1 s1 ⟨i,hi,h5,O8,h1,he,rfl⟩ -
   refine wK fun K2 aX=>?_;by_cases aY:i<a.length
   ·have LH:i<b.length:=(by omega);refine jB (Ai @h5 (Ai @O8 (Ai @aq (decide_eq_true aY)))) ?_;refine jE ?_;refine ab ?_;refine aX _ _ ?_;clear aX K2;refine wK fun K3 br=>?_;refine ah ?_;have cl:(0:Int)≤(i:Int):=(by omega);have cx:=ea aY;have YH:=ea LH;by_cases hx:a[i]=b[i]
    ·refine ba T.mixed [] (by kernel_rfl) ?_;intro K hK;refine jV (Ai @h5 (Ai @O8 (Ai @h1 (Ai @cl (Ai @aq (Ai @aY (Ai @LH (Ai @cx (Ai @YH (gz hx)))))))))) hK ?_;clear hK K;refine jF ?_;refine ab ?_;simp only[ar,az,if_true,if_false];refine br _ _ ?_;clear br K3;refine jD (Ai @h5 (dZ i (by omega))) ?_;refine⟨⟨i+1,by omega,rfl,O8,h1,te aY LH he hx,rfl⟩,?_⟩;simp only[h5,aH,↓reduceIte];omega
    ·refine ba T.mixed [] (by kernel_rfl) ?_;intro K hK;refine jV (Ai @h5 (Ai @O8 (Ai @h1 (Ai @cl (Ai @aq (Ai @aY (Ai @LH (Ai @cx (Ai @YH (fT hx)))))))))) hK ?_;clear hK K;refine jE ?_;refine jA ?_;refine a8 ?_;simp only[az,ar];simp only[cf,bt,bD,c7,List.toList_toArray,↓bf];try simp only[UP,DF,Nc,↓reduceIte,DT]
     refine jW ⟨?_,rfl⟩;rw[decide_eq_false];intro e;subst e;exact hx rfl
   ·refine jB (Ai @h5 (Ai @O8 (Ai @aq (decide_eq_false aY)))) ?_;refine jF ?_;refine aC ?_;simp only[az,ar,if_true];refine hK _ _ ?_;clear hK aX K K2;refine jA ?_;refine jI ?_;refine jW ⟨?_,rfl⟩;rw[List.take_of_length_le (by omega),List.take_of_length_le (by omega)] at he;rw[decide_eq_true he]
 ·refine jB (tM h0) ?_;refine jE ?_;refine jA ?_;refine jI ?_;refine jW ⟨?_,rfl⟩;rw[decide_eq_false (fun e=>h0 (by rw[e]))];try rfl
theorem yK(N M:af)(hl:N.ig.length≤2^61)(s:AS):aj prog Γ 195 [.agg N.cells,.agg M.cells] s (fun r s'=>r=.v (.bool (decide (N=M)))∧s'=s):=by
 refine aa func195 rfl ntmps195 results195 (by simp) ?_;unfold af.cells;obtain⟨k,m,y,p,u⟩:=N;obtain⟨k',m',y',p',u'⟩:=M;rw[tf];refine jS @aF.eq_1 fun K hK=>?_;intro o ho;intro o' ss;have dK:o≠o':=by
  intro e;subst e;simp[AS.set] at ss
 have hle:s.le ((s.set o [.v (.int .i64 k),al m .any,.v (.int .u64 y),al p .any,aF u .any]).set o' [.v (.int .i64 k'),al m' .any,.v (.int .u64 y'),al p' .any,aF u' .any]):=AS.aE (AS.aE (AS.le.refl s) ho _) (by simpa[AS.set,aH,dK.symm] using ss) _;refine hK _ _ ?_;clear hK K;rcases ff5 (k==k') ((y:Int)==(y':Int)) (decide (m=m')) (decide (p=p')) (decide (u=u')) with hd|hd|hd|hd|hd|hd
 ·refine jB (Ai @dK (Ai @hd @aF.eq_1)) ?_;refine jI ?_;refine⟨_,s,AV.aB.refl _,hle,?_,rfl⟩;simp only[hd,Bool.and_true,Bool.true_and,Bool.false_and,Bool.and_false];try rfl
 ·refine jB (Ai @dK (Ai @hd @aF.eq_1)) ?_;refine jI ?_;refine⟨_,s,AV.aB.refl _,hle,?_,rfl⟩;simp only[hd,Bool.and_true,Bool.true_and,Bool.false_and,Bool.and_false];try rfl
 ·refine jS (Ai @dK (Ai @hd @aF.eq_1)) fun K hK=>?_;refine ad (dg m m' _) ?_;rintro r s' ⟨rfl,rfl⟩;refine jV (Ai @dK (Ai @hd @aF.eq_1)) hK ?_;clear hK K;refine jI ?_;refine⟨_,s,AV.aB.refl _,hle,?_,rfl⟩;simp only[hd,Bool.and_true,Bool.true_and,Bool.false_and,Bool.and_false];try rfl
 ·refine jS (Ai @dK (Ai @hd @aF.eq_1)) fun K hK=>?_;refine ad (dg m m' _) ?_;rintro r s' ⟨rfl,rfl⟩;refine jN (Ai @dK (Ai @hd @aF.eq_1)) ?_;refine ad (dg p p' _) ?_;rintro r s' ⟨rfl,rfl⟩;refine jV (Ai @dK (Ai @hd @aF.eq_1)) hK ?_;clear hK K;refine jI ?_;refine⟨_,s,AV.aB.refl _,hle,?_,rfl⟩;simp only[hd,Bool.and_true,Bool.true_and,Bool.false_and,Bool.and_false];try rfl
 all_goals
  refine jS (Ai @dK (Ai @hd @aF.eq_1)) fun K hK=>?_;refine ad (dg m m' _) ?_;rintro r s' ⟨rfl,rfl⟩;refine jN (Ai @dK (Ai @hd @aF.eq_1)) ?_;refine ad (dg p p' _) ?_;rintro r s' ⟨rfl,rfl⟩;refine jN (Ai @dK (Ai @hd @aF.eq_1)) ?_;refine ad (tN u u' hl _) ?_;rintro r s' ⟨rfl,rfl⟩;refine jV (Ai @dK (Ai @hd @aF.eq_1)) hK ?_;clear hK K;refine jI ?_;refine⟨_,s,AV.aB.refl _,hle,?_,rfl⟩;simp only[hd,Bool.and_true,Bool.true_and,Bool.false_and,Bool.and_false];try rfl
theorem oO(N M:af)(hl:N.ig.length≤2^61)(s:AS):aj prog Γ 60 [.agg N.cells,.agg M.cells] s (fun r s'=>r=.v (.bool (decide (N=M)))∧s'=s):=by
 refine aa func60 rfl ntmps60 results60 (by simp) ?_;unfold af.cells;obtain⟨k,m,y,p,u⟩:=N;obtain⟨k',m',y',p',u'⟩:=M;rw[tf];refine jS @aF.eq_1 fun K hK=>?_;intro o ho;intro o' ss;have dK:o≠o':=by
  intro e;subst e;simp[AS.set] at ss
 have hle:s.le ((s.set o [.v (.int .i64 k),al m .any,.v (.int .u64 y),al p .any,aF u .any]).set o' [.v (.int .i64 k'),al m' .any,.v (.int .u64 y'),al p' .any,aF u' .any]):=AS.aE (AS.aE (AS.le.refl s) ho _) (by simpa[AS.set,aH,dK.symm] using ss) _;refine hK _ _ ?_;clear hK K;rcases ff5 (k==k') ((y:Int)==(y':Int)) (decide (m=m')) (decide (p=p')) (decide (u=u')) with hd|hd|hd|hd|hd|hd;case inr.inr.inr.inr.inl|inr.inr.inr.inr.inr=>
  refine jS (Ai @dK (Ai @hd (Ai @aF.eq_1 @sR))) fun K hK=>?_;refine ad (Af u u' hl _) ?_;rintro r s' ⟨rfl,rfl⟩;refine jV (Ai @dK (Ai @hd (Ai @aF.eq_1 @sR))) hK ?_;clear hK K;refine jI ?_;refine⟨_,s,AV.aB.refl _,hle,?_,rfl⟩;simp only[hd,Bool.and_true,Bool.true_and,Bool.false_and,Bool.and_false];try rfl
 all_goals
  refine jB (Ai @dK (Ai @hd (Ai @aF.eq_1 @sR))) ?_;refine jI ?_;refine⟨_,s,AV.aB.refl _,hle,?_,rfl⟩;simp only[hd,Bool.and_true,Bool.true_and,Bool.false_and,Bool.and_false];try rfl
theorem ev{a b:Int}(h:a≠b):(a==b)=false:=by simpa using h
theorem jc{a b:Int}(h:a=b):(a==b)=true:=by simpa using h
theorem CJ(l:List Int)(hl:l.length≤2^61)(s:AS):aj prog Γ 197 [aF l .any] s (fun r s'=>r=.v (.bool (decide (iW l)))∧s'=s):=by
 refine aa func197 rfl ntmps197 results197 (by simp) ?_;unfold aF;refine jA ?_;refine wK fun K hK=>?_;refine jA ?_;refine ah ?_;refine aD (fun E s1=>∃i:Nat,i≤l.length∧E 7=.v (.int .i64 i)∧E 6=.v (.int .i64 l.length)∧E 0=.sl 1 l.length (l.map aI) .any∧E 5=.sl 1 l.length (l.map aI) .any∧(∀j,j<i→uI l j)∧s1=s)
  (fun E _=>match E 7 with |.v (.int _ i)=>l.length-i.toNat|_=>0) ?_ ?_
 ·exact⟨0,Nat.zero_le _,by simp[aH],by simp[aH],by simp[aH,bC],by simp[aH,bC],by simp,rfl⟩
 ·rintro E1 s1 ⟨i,hi,h7,h6,h0,h5,bT,rfl⟩ -
  by_cases aY:i<l.length
  ·refine jB (Ai @h7 (Ai @h6 (Ai @aq (decide_eq_true aY)))) ?_;refine wK fun K2 aX=>?_;refine jE ?_;refine ab ?_;refine aX _ _ ?_;clear aX K2;refine wK fun K3 br=>?_;refine ah ?_;have cl:(0:Int)≤(i:Int):=(by omega);have cx:=ea aY;have iN:(uI l i)→∀E2:Env,E2 7=.v (.int .i64 i)→E2 6=.v (.int .i64 l.length)→E2 0=.sl 1 l.length (l.map aI) .any→E2 5=.sl 1 l.length (l.map aI) .any→K3 E2 s1:=by
    intro ho E2 g7 g6 g0 g5;refine br _ _ ?_;clear br K3;refine jD (Ai @g7 (dZ i (by omega))) ?_;refine⟨⟨i+1,by omega,rfl,g6,g0,g5,?_,rfl⟩,?_⟩
    ·intro j hj;by_cases DA:j<i
     ·exact bT j DA
     ·obtain rfl:j=i:=(by omega);exact ho
    ·simp only[h7,aH,↓reduceIte];omega
   clear br;have fQ:¬uI l i→decide (iW l)=false:=fun h=>decide_eq_false fun hr=>h (hr i aY);refine jB (Ai @h7 (Ai @h5 (Ai @cl (Ai @aq (Ai @aY @cx))))) ?_;by_cases h1:l[i]<0
   ·refine jB (decide_eq_true h1) ?_;refine jE ?_;refine jA ?_;refine a8 ?_;simp only[az,ar];simp only[cf,bt,bD,c7,List.toList_toArray,↓bf];try simp only[UP,DF,Nc,↓reduceIte,DT]
    rw[fQ (fun h=>by have:=lL aY h;omega)];exact jW ⟨rfl,rfl⟩
   by_cases h2:32≤l[i]
   ·refine jB (Ai (decide_eq_false h1) (decide_eq_true h2)) ?_;refine jE ?_;refine jA ?_;refine a8 ?_;simp only[az,ar];simp only[cf,bt,bD,c7,List.toList_toArray,↓bf];try simp only[UP,DF,Nc,↓reduceIte,DT]
    rw[fQ (fun h=>by have:=lL aY h;omega)];exact jW ⟨rfl,rfl⟩
   by_cases h3:(0:Int)<(i:Int)
   ·have hj:i-1<l.length:=(by omega);have p9:di .i64 (i:Int) 1=((i-1:Nat):Int):=(by rw[bR (by omega)];omega);have Ag:=ea hj;have pX:(0:Int)≤((i-1:Nat):Int):=(by omega);by_cases h4:l[i]≤l[i-1]
    ·refine jB (Ai (decide_eq_false h1) (Ai (decide_eq_false h2) (Ai (decide_eq_true h3) (Ai @h0 (Ai @p9 (Ai @pX (Ai @aq (Ai @hj (Ai @Ag (decide_eq_true h4)))))))))) ?_;refine jE ?_;refine jA ?_;refine a8 ?_;simp only[az,ar];simp only[cf,bt,bD,c7,List.toList_toArray,↓bf];try simp only[UP,DF,Nc,↓reduceIte,DT]
     rw[fQ (fun h=>by have:=(lL aY h).2.2 (by omega);omega)];exact jW ⟨rfl,rfl⟩
    ·refine jB (Ai (decide_eq_false h1) (Ai (decide_eq_false h2) (Ai (decide_eq_true h3) (Ai @h0 (Ai @p9 (Ai @pX (Ai @aq (Ai @hj (Ai @Ag (decide_eq_false h4)))))))))) ?_;refine jF ?_;refine ab ?_;simp only[ar,az,if_true,if_false];exact iN (tg aY (by omega) (by omega) (fun _=>by omega)) _ h7 h6 h0 h5
   ·refine jB (Ai (decide_eq_false h1) (Ai (decide_eq_false h2) (decide_eq_false h3))) ?_;refine jF ?_;refine ab ?_;simp only[ar,az,if_true,if_false];exact iN (tg aY (by omega) (by omega) (fun q=>by omega)) _ h7 h6 h0 h5
  ·refine jB (Ai @h7 (Ai @h6 (Ai @aq (decide_eq_false aY)))) ?_;refine wK fun K2 aX=>?_;refine jF ?_;refine aC ?_;simp only[az,ar,if_true];refine hK _ _ ?_;clear hK aX K K2;refine jA ?_;refine jI ?_;refine jW ⟨?_,rfl⟩;rw[decide_eq_true (show iW l from fun j hj=>bT j (by omega))]
theorem rV(N:af)(s:AS):aj prog Γ 196 [.agg N.cells] s (fun r s'=>r=.v (.bool (decide N.held))∧s'=s):=by
 refine aa func196 rfl ntmps196 results196 (by simp) ?_;unfold af.cells;obtain⟨k,m,y,p,u⟩:=N;refine aU 1 (by simp[cq]) ?_;intro K hK;refine jN @aF.eq_1 ?_;intro o ho;refine hK _ _ o _ rfl ho ?_;clear hK K ho;have hr:∀b,(af.held ⟨k,m,y,p,u⟩↔b=true)→decide (af.held ⟨k,m,y,p,u⟩)=b:=by
  intro b h;cases b
  ·exact decide_eq_false (fun h2=>by have:=h.1 h2;cases this)
  ·exact decide_eq_true (h.2 rfl)
 by_cases h1:2≤(y:Int)∧(y:Int)≤2305843009213693949
 ·have hd:(decide (2≤(y:Int))&&decide ((y:Int)≤2305843009213693949))=true:=(by simp;omega);by_cases h2:p.length=0
  ·refine jQ fun K hK=>?_;refine ad (ch y s) ?_;rintro r s' ⟨rfl,rfl⟩;rw[hd];refine jV (Ai @h2 (show(((0:Nat):Int)==0)=true from rfl)) hK ?_;clear hK K;refine jI ?_;rw[hr true ⟨fun _=>rfl,fun _=>⟨by simp only;omega,by simp only;omega,.inl h2⟩⟩];exact jW ⟨rfl,rfl⟩
  ·by_cases h3:p.length=32
   ·refine jQ fun K hK=>?_;refine ad (ch y s) ?_;rintro r s' ⟨rfl,rfl⟩;rw[hd];refine jV (Ai @h3 (Ai (show(((32:Nat):Int)==0)=false from rfl) (show(((32:Nat):Int)==32)=true from rfl))) hK ?_;clear hK K;refine jI ?_;rw[hr true ⟨fun _=>rfl,fun _=>⟨by simp only;omega,by simp only;omega,.inr h3⟩⟩];exact jW ⟨rfl,rfl⟩
   ·refine jQ fun K hK=>?_;refine ad (ch y s) ?_;rintro r s' ⟨rfl,rfl⟩;rw[hd];refine jV (Ai (ev (show(p.length:Int)≠0 by omega)) (ev (show(p.length:Int)≠32 by omega))) hK ?_;clear hK K;refine jI ?_;rw[hr false ⟨fun h=>by have:=h.2.2;simp only at this;omega,fun h=>by cases h⟩];exact jW ⟨rfl,rfl⟩
 ·have hd:(decide (2≤(y:Int))&&decide ((y:Int)≤2305843009213693949))=false:=(by simp;omega);refine jQ fun K hK=>?_;refine ad (ch y s) ?_;rintro r s' ⟨rfl,rfl⟩;rw[hd];refine jR hK ?_;clear hK K;refine jI ?_;rw[hr false ⟨fun h=>by have:=h.1;have:=h.2.1;simp only at *;omega,fun h=>by cases h⟩];exact jW ⟨rfl,rfl⟩
theorem tO:(AV.agg [.v (.int .i64 0),.v (.slice none 0 0),.v (.int .u64 0),.v (.slice none 0 0),.v (.slice none 0 0)]).aB (.agg af.gH.cells):=
 AV.pF (.cons (AV.aB.refl _) (.cons AV.aN (.cons (AV.aB.refl _) (.cons AV.aN (.cons AV.aN .nil)))))
theorem kE(N:af)(hl:N.ig.length≤2^61)(s:AS):aj prog Γ 161 [.agg N.cells] s (fun r s'=>r=.v (.bool (decide N.right))∧s'=s):=by
 refine aa func161 rfl ntmps161 results161 (by simp) ?_;unfold af.cells;obtain⟨k,m,y,p,u⟩:=N;refine aU 1 (by simp[cq]) ?_;intro K hK;refine jN @aF.eq_1 ?_;intro o ho;refine hK _ _ o _ rfl ho ?_;clear hK K ho;have iD:∀b,(af.right ⟨k,m,y,p,u⟩↔b=true)→decide (af.right ⟨k,m,y,p,u⟩)=b:=by
  intro b h;cases b
  ·exact decide_eq_false (fun h2=>by have:=h.1 h2;cases this)
  ·exact decide_eq_true (h.2 rfl)
 refine wK fun K hK=>?_;refine jA ?_;refine ah ?_;by_cases h0:k=0
 ·refine jB (jc h0) ?_;refine jE ?_;refine jS @aF.eq_1 fun K hK=>?_;refine ad (aj.gL (.cons (AV.aB.refl _) (.cons tO .nil)) (yK ⟨k,m,y,p,u⟩ af.gH hl s)) ?_;rintro r s' ⟨rfl,rfl⟩;refine jR hK ?_;clear hK K;refine a8 ?_;simp only[az,ar];simp only[cf,bt,bD,c7,List.toList_toArray,↓bf];try simp only[UP,DF,Nc,↓reduceIte,DT]
  refine jW ⟨?_,rfl⟩;rw[iD _ ((lM (N:=⟨k,m,y,p,u⟩) h0).trans decide_eq_true_iff.symm)]
 by_cases h1:k=1
 ·have wD:=eY (N:=⟨k,m,y,p,u⟩) h1;simp only at wD;rcases ff4 (decide (1≤(m.length:Int))) (decide ((m.length:Int)≤16)) (decide (af.held ⟨k,m,y,p,u⟩)) ((u.length:Int)==0) with hd|hd|hd|hd|hd;case inl|inr.inl=>
   refine jB (ev h0) ?_;refine jF ?_;refine jB (jc h1) ?_;refine jE ?_;refine jB (Ai @hd @aF.eq_1) ?_;refine a8 ?_;simp only[az,ar];simp only[cf,bt,bD,c7,List.toList_toArray,↓bf];try simp only[UP,DF,Nc,↓reduceIte,DT]
   refine jW ⟨?_,rfl⟩;simp only[decide_eq_true_eq,decide_eq_false_iff_not,beq_iff_eq] at hd;rw[iD false ⟨fun h=>by have:=wD.1 h;omega,fun h=>by cases h⟩]
  all_goals
   refine jB (ev h0) ?_;refine jF ?_;refine jB (jc h1) ?_;refine jE ?_;refine jS (Ai @hd @aF.eq_1) fun K hK=>?_;refine ad (rV ⟨k,m,y,p,u⟩ s) ?_;rintro r s' ⟨rfl,rfl⟩;refine jV (Ai @hd @aF.eq_1) hK ?_;clear hK K;refine a8 ?_;simp only[az,ar];simp only[cf,bt,bD,c7,List.toList_toArray,↓bf];try simp only[UP,DF,Nc,↓reduceIte,DT]
   refine jW ⟨?_,rfl⟩;simp only[decide_eq_true_eq,decide_eq_false_iff_not,beq_iff_eq,beq_eq_false_iff_ne] at hd
  ·rw[iD false ⟨fun h=>absurd (wD.1 h).2.2.1 hd.2.2,fun h=>by cases h⟩]
  ·rw[iD false ⟨fun h=>by have:=(wD.1 h).2.2.2;omega,fun h=>by cases h⟩]
  ·rw[iD true ⟨fun _=>rfl,fun _=>wD.2 ⟨by omega,by omega,hd.2.2.1,by omega⟩⟩]
 by_cases h2:k=2
 ·have wD:=fJ (N:=⟨k,m,y,p,u⟩) h2;simp only at wD hl;rcases ff3 ((m.length:Int)==0) (decide (af.held ⟨k,m,y,p,u⟩)) (decide (iW u)) with hd|hd|hd|hd;all_goals
   refine jB (ev h0) ?_;refine jF ?_;refine jB (ev h1) ?_;refine jF ?_;refine jB (jc h2) ?_;refine jE ?_
  ·refine jB (Ai @hd @aF.eq_1) ?_;refine a8 ?_;simp only[az,ar];simp only[cf,bt,bD,c7,List.toList_toArray,↓bf];try simp only[UP,DF,Nc,↓reduceIte,DT]
   refine jW ⟨?_,rfl⟩;simp only[beq_eq_false_iff_ne] at hd;rw[iD false ⟨fun h=>by have:=(wD.1 h).1;omega,fun h=>by cases h⟩]
  ·refine jS (Ai @hd @aF.eq_1) fun K hK=>?_;refine ad (rV ⟨k,m,y,p,u⟩ s) ?_;rintro r s' ⟨rfl,rfl⟩;refine jV (Ai @hd @aF.eq_1) hK ?_;clear hK K;refine a8 ?_;simp only[az,ar];simp only[cf,bt,bD,c7,List.toList_toArray,↓bf];try simp only[UP,DF,Nc,↓reduceIte,DT]
   refine jW ⟨?_,rfl⟩;simp only[decide_eq_false_iff_not] at hd;rw[iD false ⟨fun h=>absurd (wD.1 h).2.1 hd.2,fun h=>by cases h⟩]
  all_goals
   refine jS (Ai @hd @aF.eq_1) fun K hK=>?_;refine ad (rV ⟨k,m,y,p,u⟩ s) ?_;rintro r s' ⟨rfl,rfl⟩;refine jN (Ai @hd @aF.eq_1) ?_;refine ad (CJ u hl _) ?_;rintro r s' ⟨rfl,rfl⟩;refine jV (Ai @hd @aF.eq_1) hK ?_;clear hK K;refine a8 ?_;simp only[az,ar];simp only[cf,bt,bD,c7,List.toList_toArray,↓bf];try simp only[UP,DF,Nc,↓reduceIte,DT]
   refine jW ⟨?_,rfl⟩;simp only[decide_eq_true_eq,decide_eq_false_iff_not,beq_iff_eq] at hd
  ·rw[iD false ⟨fun h=>absurd (wD.1 h).2.2 hd.2.2,fun h=>by cases h⟩]
  ·rw[iD true ⟨fun _=>rfl,fun _=>wD.2 ⟨by omega,hd.2.1,hd.2.2⟩⟩]
 ·refine jB (ev h0) ?_;refine jF ?_;refine jB (ev h1) ?_;refine jF ?_;refine jB (ev h2) ?_;refine jF ?_;refine ab ?_;simp only[ar,az,if_true,if_false];refine hK _ _ ?_;clear hK K;refine jA ?_;refine jI ?_;refine jW ⟨?_,rfl⟩;rw[iD false ⟨fun h=>absurd h (yd (N:=⟨k,m,y,p,u⟩) h0 h1 h2),fun h=>by cases h⟩]
theorem GM{N:af}(h0:N.kind≠0)(h:N.right):N.held:=by
 unfold af.right at h;rw[if_neg h0] at h;split at h
 ·exact h.2.2.1
 ·split at h
  ·exact h.2.1
  ·exact h.elim
theorem uV(N:af)(hl:N.ig.length≤2^61)(s:AS):aj prog Γ 63 [.agg N.cells] s (fun r s'=>r=.v (.bool (decide N.right))∧s'=s):=by
 refine aa func63 rfl ntmps63 results63 (by simp) ?_;unfold af.cells;obtain⟨k,m,y,p,u⟩:=N;simp only at hl;refine aU 1 (by simp[cq]) ?_;intro K hK;refine jN @aF.eq_1 ?_;intro o ho;refine hK _ _ o _ rfl ho ?_;clear hK K ho;have iD:∀b,(af.right ⟨k,m,y,p,u⟩↔b=true)→decide (af.right ⟨k,m,y,p,u⟩)=b:=by
  intro b h;cases b
  ·exact decide_eq_false (fun h2=>by have:=h.1 h2;cases this)
  ·exact decide_eq_true (h.2 rfl)
 refine wK fun K hK=>?_;by_cases h0:k=0
 ·refine jB (jc h0) ?_;refine jE ?_;refine jS @aF.eq_1 fun K hK=>?_;refine ad (aj.gL (.cons (AV.aB.refl _) (.cons tO .nil)) (oO ⟨k,m,y,p,u⟩ af.gH hl s)) ?_;rintro r s' ⟨rfl,rfl⟩;refine jR hK ?_;clear hK K;refine jI ?_;refine jW ⟨?_,rfl⟩;rw[iD _ ((lM (N:=⟨k,m,y,p,u⟩) h0).trans decide_eq_true_iff.symm)];try rfl
 ·refine jB (ev h0) ?_;refine jF ?_;refine ab ?_;refine hK _ _ ?_;clear hK K;refine wK fun K0 LZ=>?_;refine jQ fun K hK=>?_;refine ad (nw y s) ?_;rintro r s' ⟨rfl,rfl⟩;by_cases hh:af.held ⟨k,m,y,p,u⟩
  ·have hh':=hh;obtain⟨e1,e2,e3⟩:=hh';simp only at e1 e2 e3;rw[show(decide (2≤(y:Int))&&decide ((y:Int)≤2305843009213693949))=true from by simp;omega];have qz:∀E2:Env,E2 1=.dr [.v (.int .i64 k),.sl 1 m.length (m.map ai) .any,.v (.int .u64 y),.sl 1 p.length (p.map ai) .any,.sl 1 u.length (u.map aI) .any]→K0 E2 s':=by
    intro E2 g1;refine LZ _ _ ?_;clear LZ K0 hK K;refine wK fun K hK=>?_;by_cases h1:k=1
    ·have wD:=eY (N:=⟨k,m,y,p,u⟩) h1;simp only at wD;refine jB (Ai @g1 (jc h1)) ?_;refine jE ?_;rcases ff3 (decide (1≤(m.length:Int))) (decide ((m.length:Int)≤16)) ((u.length:Int)==0) with hd|hd|hd|hd;all_goals
      refine jB (Ai @g1 @hd) ?_;refine jI ?_;refine jW ⟨?_,rfl⟩;simp only[decide_eq_true_eq,decide_eq_false_iff_not,beq_iff_eq,beq_eq_false_iff_ne] at hd
     ·rw[iD false ⟨fun h=>by have:=wD.1 h;omega,fun h=>by cases h⟩];try rfl
     ·rw[iD false ⟨fun h=>by have:=wD.1 h;omega,fun h=>by cases h⟩];try rfl
     ·rw[iD false ⟨fun h=>by have:=(wD.1 h).2.2.2;omega,fun h=>by cases h⟩];try rfl
     ·rw[iD true ⟨fun _=>rfl,fun _=>wD.2 ⟨by omega,by omega,hh,by omega⟩⟩];try rfl
    ·refine jB (Ai @g1 (ev h1)) ?_;refine jF ?_;refine ab ?_;refine hK _ _ ?_;clear hK K;refine wK fun K hK=>?_;by_cases h2:k=2
     ·have wD:=fJ (N:=⟨k,m,y,p,u⟩) h2;simp only at wD;by_cases hm:(0:Int)<(m.length:Int)
      ·refine jB (Ai @g1 (Ai (gz h2) (decide_eq_true hm))) ?_;refine jE ?_;refine jA ?_;refine jI ?_;refine jW ⟨?_,rfl⟩;rw[iD false ⟨fun h=>by have:=(wD.1 h).1;omega,fun h=>by cases h⟩];try rfl
      ·refine jB (Ai @g1 (Ai (gz h2) (decide_eq_false hm))) ?_;refine jF ?_;refine ab ?_;refine hK _ _ ?_;clear hK K;refine wK fun K hK=>?_;refine jB @g1 ?_;refine ah ?_;refine aD (fun E s1=>∃i:Nat,i≤u.length∧E 3=.v (.int .i64 i)∧E 1=.dr [.v (.int .i64 k),.sl 1 m.length (m.map ai) .any,.v (.int .u64 y),.sl 1 p.length (p.map ai) .any,.sl 1 u.length (u.map aI) .any]∧(∀j,j<i→uI u j)∧s1=s')
        (fun E _=>match E 3 with |.v (.int _ i)=>u.length-i.toNat|_=>0) ?_ ?_
       ·exact⟨0,Nat.zero_le _,rfl,g1,by simp,rfl⟩
       ·rintro E3 s1 ⟨i,hi,h3,O9,bT,rfl⟩ -
        refine wK fun K2 aX=>?_;by_cases aY:i<u.length
        ·refine jB (Ai @h3 (Ai @O9 (Ai @aq (decide_eq_true aY)))) ?_;refine jE ?_;refine ab ?_;refine aX _ _ ?_;clear aX K2;refine wK fun K3 br=>?_;refine ah ?_;have cl:(0:Int)≤(i:Int):=(by omega);have cx:=ea aY;have iN:(uI u i)→∀E4:Env,E4 3=.v (.int .i64 i)→E4 1=.dr [.v (.int .i64 k),.sl 1 m.length (m.map ai) .any,.v (.int .u64 y),.sl 1 p.length (p.map ai) .any,.sl 1 u.length (u.map aI) .any]→K3 E4 s1:=by
          intro ho E4 g3 g41;refine br _ _ ?_;clear br K3;refine jD (Ai @g3 (dZ i (by omega))) ?_;refine⟨⟨i+1,by omega,rfl,g41,?_,rfl⟩,?_⟩
          ·intro j hj;by_cases DA:j<i
           ·exact bT j DA
           ·obtain rfl:j=i:=(by omega);exact ho
          ·simp only[h3,aH,↓reduceIte];omega
         clear br;have fQ:¬uI u i→decide (af.right ⟨k,m,y,p,u⟩)=false:=fun h=>iD false ⟨fun hr=>absurd ((wD.1 hr).2.2 i aY) h,fun h=>by cases h⟩;by_cases q1:u[i]<0
         ·refine ba T.mixed [] (by kernel_rfl) ?_;intro K hK;refine jV (Ai @h3 (Ai @O9 (Ai @cl (Ai @aq (Ai @aY (Ai @cx (decide_eq_true q1))))))) hK ?_;clear hK K;refine jE ?_;refine jA ?_;refine a8 ?_;simp only[az,ar];simp only[cf,bt,bD,c7,List.toList_toArray,↓bf];try simp only[UP,DF,Nc,↓reduceIte,DT]
          rw[fQ (fun h=>by have:=lL aY h;omega)];exact jW ⟨rfl,rfl⟩
         by_cases q2:31<u[i]
         ·refine ba T.mixed [] (by kernel_rfl) ?_;intro K hK;refine jV (Ai @h3 (Ai @O9 (Ai @cl (Ai @aq (Ai @aY (Ai @cx (Ai (decide_eq_false q1) (decide_eq_true q2)))))))) hK ?_;clear hK K;refine jE ?_;refine jA ?_;refine a8 ?_;simp only[az,ar];simp only[cf,bt,bD,c7,List.toList_toArray,↓bf];try simp only[UP,DF,Nc,↓reduceIte,DT]
          rw[fQ (fun h=>by have:=lL aY h;omega)];exact jW ⟨rfl,rfl⟩
         by_cases q3:(0:Int)<(i:Int)
         ·have hj:i-1<u.length:=(by omega);have p9:di .i64 (i:Int) 1=((i-1:Nat):Int):=(by rw[bR (by omega)];omega);have Ag:=ea hj;have pX:(0:Int)≤((i-1:Nat):Int):=(by omega);by_cases q4:u[i]≤u[i-1]
          ·refine ba T.mixed [] (by kernel_rfl) ?_;intro K hK;refine jV (Ai @h3 (Ai @O9 (Ai @cl (Ai @aq (Ai @aY (Ai @cx (Ai (decide_eq_false q1) (Ai (decide_eq_false q2) (Ai (decide_eq_true q3) (Ai @p9 (Ai @pX (Ai @hj (Ai @Ag (decide_eq_true q4)))))))))))))) hK ?_;clear hK K;refine jE ?_;refine jA ?_;refine a8 ?_;simp only[az,ar];simp only[cf,bt,bD,c7,List.toList_toArray,↓bf];try simp only[UP,DF,Nc,↓reduceIte,DT]
           rw[fQ (fun h=>by have:=(lL aY h).2.2 (by omega);omega)];exact jW ⟨rfl,rfl⟩
          ·refine ba T.mixed [] (by kernel_rfl) ?_;intro K hK;refine jV (Ai @h3 (Ai @O9 (Ai @cl (Ai @aq (Ai @aY (Ai @cx (Ai (decide_eq_false q1) (Ai (decide_eq_false q2) (Ai (decide_eq_true q3) (Ai @p9 (Ai @pX (Ai @hj (Ai @Ag (decide_eq_false q4)))))))))))))) hK ?_;clear hK K;refine jF ?_;refine ab ?_;simp only[ar,az,if_true,if_false];exact iN (tg aY (by omega) (by omega) (fun _=>by omega)) _ h3 O9
         ·refine ba T.mixed [] (by kernel_rfl) ?_;intro K hK;refine jV (Ai @h3 (Ai @O9 (Ai @cl (Ai @aq (Ai @aY (Ai @cx (Ai (decide_eq_false q1) (Ai (decide_eq_false q2) (decide_eq_false q3))))))))) hK ?_;clear hK K;refine jF ?_;refine ab ?_;simp only[ar,az,if_true,if_false];exact iN (tg aY (by omega) (by omega) (fun q=>by omega)) _ h3 O9
        ·refine jB (Ai @h3 (Ai @O9 (Ai @aq (decide_eq_false aY)))) ?_;refine jF ?_;refine aC ?_;simp only[az,ar,if_true];refine hK _ _ ?_;clear hK aX K K2;refine jA ?_;refine jI ?_;refine jW ⟨?_,rfl⟩;rw[iD true ⟨fun _=>rfl,fun _=>wD.2 ⟨by omega,hh,fun j hj=>bT j (by omega)⟩⟩];try rfl
     ·refine jB (Ai @g1 (fT h2)) ?_;refine jE ?_;refine jA ?_;refine jI ?_;refine jW ⟨?_,rfl⟩;rw[iD false ⟨fun h=>absurd h (yd (N:=⟨k,m,y,p,u⟩) h0 h1 h2),fun h=>by cases h⟩];try rfl
   clear LZ;rcases e3 with e3|e3
   ·refine jV (Ai @e3 (show(((0:Nat):Int) != 0)=false from rfl)) hK ?_;clear hK K;refine jF ?_;refine ab ?_;exact qz _ (by simp only[aH,Nc,↓reduceIte,e3])
   ·refine jV (Ai @e3 (Ai (show(((32:Nat):Int) != 0)=true from rfl) (show(((32:Nat):Int) != 32)=false from rfl))) hK ?_;clear hK K;refine jF ?_;refine ab ?_;exact qz _ (by simp only[aH,Nc,↓reduceIte,e3])
  ·have L0:decide (af.right ⟨k,m,y,p,u⟩)=false:=iD false ⟨fun h=>absurd (GM (N:=⟨k,m,y,p,u⟩) h0 h) hh,fun h=>by cases h⟩;by_cases e1:2≤(y:Int)∧(y:Int)≤2305843009213693949
   ·have e3:¬(p.length=0∨p.length=32):=fun e=>hh ⟨by simp only;omega,by simp only;omega,e⟩;rw[show(decide (2≤(y:Int))&&decide ((y:Int)≤2305843009213693949))=true from by simp;omega];refine jV (Ai (fT (show(p.length:Int)≠0 by omega)) (fT (show(p.length:Int)≠32 by omega))) hK ?_;clear hK K;refine jE ?_;refine jA ?_;refine jI ?_;rw[L0];exact jW ⟨rfl,rfl⟩
   ·rw[show(decide (2≤(y:Int))&&decide ((y:Int)≤2305843009213693949))=false from by simp;omega];refine jR hK ?_;clear hK K;refine jE ?_;refine jA ?_;refine jI ?_;rw[L0];exact jW ⟨rfl,rfl⟩
def dz(N:af)(st:List UInt8×Bool):List UInt8×Bool:=if N.right then ee N.text st else(st.1,true)
theorem oP(N:af)(hl:N.ig.length≤2^61)(s0 s:AS)(p:Nat)(st:List UInt8×Bool)(iH:st.1.length+200≤2^45)(h:gb s0 s p st):
  aj prog Γ 236 [.ptr p 0,.agg N.cells] s (fun r s'=>r=.eo []∧gb s0 s' p (dz N st)):=by
 refine aa func236 rfl ntmps236 results236 (by simp) ?_;unfold af.cells;obtain⟨k,m,y,pa,u⟩:=N;refine aU 3 (by simp[cq]) ?_;intro K hK;refine jN @aF.eq_1 ?_;intro o ho;refine hK _ _ o _ rfl ho ?_;clear hK K ho;refine wK fun K hK=>?_;refine jQ fun K hK=>?_;refine ad (kE ⟨k,m,y,pa,u⟩ hl s) ?_;rintro r s' ⟨rfl,rfl⟩;have hlen:∀a,(ee a st).1.length≤st.1.length+a.length:=fun a=>xO a st;by_cases hr:af.right ⟨k,m,y,pa,u⟩
 ·rw[decide_eq_true hr];refine jR hK ?_;clear hK K;refine jF ?_;refine ab ?_;refine hK _ _ ?_;clear hK K;have L4:dz ⟨k,m,y,pa,u⟩ st=ee (af.text ⟨k,m,y,pa,u⟩) st:=if_pos hr;rw[L4];rcases iX hr with hk|hk|hk
  ·simp only at hk;subst hk;refine jQ fun K hK=>?_;refine ad (fB s0 s' p st ((0:Nat):Int) (by omega) (by omega) h) ?_;rintro r s1 ⟨rfl,q1⟩;rw[fL (by decide)] at q1;refine jR hK ?_;clear hK K;refine wK fun K hK=>?_;refine wS fun K hK=>?_;simp only[↓DN,Qa,Qb,Qc,Qd,Qe,Qf,Qg,Qh,reduceCtorEq,↓reduceIte,Na,Nb,Nc,Nk,Nf,Ng,Nh,Za,Zb,Zc,TT,Int.reduceBEq];refine hK _ _ ?_;clear hK K;refine jE ?_;refine jI ?_;exact jW ⟨rfl,q1⟩
  ·obtain⟨h1,h2,⟨h3,h4,h5⟩,h6⟩:=(eY hk).1 hr;simp only at hk h1 h2 h3 h4 h5 h6;subst hk;refine jQ fun K hK=>?_;refine ad (fB s0 s' p st ((1:Nat):Int) (by omega) (by omega) h) ?_;rintro r s1 ⟨rfl,q1⟩;rw[fL (by decide)] at q1;refine jR hK ?_;clear hK K;refine wK fun K hK=>?_;refine wS fun K hK=>?_;simp only[↓DN,Qa,Qb,Qc,Qd,Qe,Qf,Qg,Qh,reduceCtorEq,↓reduceIte,Na,Nb,Nc,Nk,Nf,Ng,Nh,Za,Zb,Zc,TT,Int.reduceBEq];refine hK _ _ ?_;clear hK K;refine jF ?_;refine ab ?_;refine hK _ _ ?_;clear hK K;refine wK fun K hK=>?_;refine wS fun K hK=>?_;simp only[↓DN,Qa,Qb,Qc,Qd,Qe,Qf,Qg,Qh,reduceCtorEq,↓reduceIte,Na,Nb,Nc,Nk,Nf,Ng,Nh,Za,Zb,Zc,TT,Int.reduceBEq];refine hK _ _ ?_;clear hK K;refine jE ?_;refine jT fun K hK=>?_;refine ad (fC s0 s1 p _ _ m (zF.any m) (by have:=hlen (be 1 1);simp at this⊢;omega) q1) ?_;rintro r s2 ⟨rfl,q2⟩;rw[pO (by omega),ft] at q2;refine jR hK ?_;clear hK K;refine hK _ _ ?_;clear hK K;refine jQ fun K hK=>?_;refine ad (la s0 s2 p _ y (by omega) (by refine Nat.le_trans (Nat.add_le_add_right (hlen _) _) ?_;simp;omega) q2) ?_;rintro r s3 ⟨rfl,q3⟩;rw[rG,ft] at q3;refine jR hK ?_;clear hK K;refine jQ fun K hK=>?_;refine ad (fC s0 s3 p _ _ pa (zF.any pa) (by refine Nat.le_trans (Nat.add_le_add_right (Nat.add_le_add_right (hlen _) _) _) ?_;simp;omega) q3) ?_;rintro r s4 ⟨rfl,q4⟩;rw[pO (by omega),ft] at q4;refine jR hK ?_;clear hK K;refine wS fun K hK=>?_;simp only[↓DN,Qa,Qb,Qc,Qd,Qe,Qf,Qg,Qh,reduceCtorEq,↓reduceIte,Na,Nb,Nc,Nk,Nf,Ng,Nh,Za,Zb,Zc,TT,Int.reduceBEq];refine hK _ _ ?_;clear hK K;refine jF ?_;refine ab ?_;simp only[cf,bt,bD,c7,List.toList_toArray,↓bf];try simp only[UP,DF,Nc,↓reduceIte,DT]
   refine jW ⟨rfl,?_⟩;rw[show af.text ⟨1,m,y,pa,u⟩=be 1 1++(be 1 m.length++m)++be 8 y++(be 1 pa.length++pa) from rfl];exact q4
  ·obtain⟨h1,⟨h3,h4,h5⟩,h6⟩:=(fJ hk).1 hr;simp only at hk h1 h3 h4 h5 h6;subst hk;have hu:=nZ h6;refine jQ fun K hK=>?_;refine ad (fB s0 s' p st ((2:Nat):Int) (by omega) (by omega) h) ?_;rintro r s1 ⟨rfl,q1⟩;rw[fL (by decide)] at q1;refine jR hK ?_;clear hK K;refine wK fun K hK=>?_;refine wS fun K hK=>?_;simp only[↓DN,Qa,Qb,Qc,Qd,Qe,Qf,Qg,Qh,reduceCtorEq,↓reduceIte,Na,Nb,Nc,Nk,Nf,Ng,Nh,Za,Zb,Zc,TT,Int.reduceBEq];refine hK _ _ ?_;clear hK K;refine jF ?_;refine ab ?_;refine hK _ _ ?_;clear hK K;refine wK fun K hK=>?_;refine wS fun K hK=>?_;simp only[↓DN,Qa,Qb,Qc,Qd,Qe,Qf,Qg,Qh,reduceCtorEq,↓reduceIte,Na,Nb,Nc,Nk,Nf,Ng,Nh,Za,Zb,Zc,TT,Int.reduceBEq];refine hK _ _ ?_;clear hK K;refine jF ?_;refine ab ?_;refine hK _ _ ?_;clear hK K;refine jQ fun K hK=>?_;refine ad (la s0 s1 p _ y (by omega) (by refine Nat.le_trans (Nat.add_le_add_right (hlen _) _) ?_;simp;omega) q1) ?_;rintro r s3 ⟨rfl,q3⟩;rw[rG,ft] at q3;refine jR hK ?_;clear hK K;refine jQ fun K hK=>?_;refine ad (fC s0 s3 p _ _ pa (zF.any pa) (by refine Nat.le_trans (Nat.add_le_add_right (Nat.add_le_add_right (hlen _) _) _) ?_;simp;omega) q3) ?_;rintro r s4 ⟨rfl,q4⟩;rw[pO (by omega),ft] at q4;refine jR hK ?_;clear hK K;refine wS fun K hK=>?_;simp only[↓DN,Qa,Qb,Qc,Qd,Qe,Qf,Qg,Qh,reduceCtorEq,↓reduceIte,Na,Nb,Nc,Nk,Nf,Ng,Nh,Za,Zb,Zc,TT,Int.reduceBEq];refine hK _ _ ?_;clear hK K;refine jE ?_;refine jQ fun K hK=>?_;refine ad (fB s0 s4 p _ (u.length:Int) (by omega) (by refine Nat.le_trans (Nat.add_le_add_right (hlen _) _) ?_;simp;omega) q4) ?_;rintro r s5 ⟨rfl,q5⟩;rw[fL (by omega),ft] at q5;obtain⟨A,hA⟩:∃A,A=be 1 2++be 8 y++(be 1 pa.length++pa)++be 1 u.length:=⟨_,rfl⟩;have hAl:A.length≤50:=(by rw[hA];simp;omega);rw[←hA] at q5;have Uj:af.text ⟨2,m,y,pa,u⟩=A++eu u:=(by rw[hA];rfl);refine jR hK ?_;clear hK K;refine jA ?_;refine ah ?_;refine aD (fun E s2=>∃i:Nat,i≤u.length∧E 44=.v (.int .i64 i)∧E 43=.v (.int .i64 u.length)∧E 42=.sl 1 u.length (u.map aI) .any∧E 0=.ptr p 0∧gb s0 s2 p (ee (A++eu (u.take i)) st))
    (fun E _=>match E 44 with |.v (.int _ i)=>u.length-i.toNat|_=>0) ?_ ?_
   ·exact⟨0,Nat.zero_le _,rfl,rfl,rfl,by simp only[aH,bC,Nc,↓reduceIte,List.getD_cons_zero],by simpa[eu] using q5⟩
   ·rintro E1 s6 ⟨i,hi,YI,g43,g42,g0,q6⟩ -
    by_cases aY:i<u.length
    ·refine jB (Ai @YI (Ai @g43 (Ai @aq (decide_eq_true aY)))) ?_;refine wK fun K2 aX=>?_;refine jE ?_;refine ab ?_;refine aX _ _ ?_;clear aX K2;refine wK fun K3 br=>?_;refine ah ?_;have cl:(0:Int)≤(i:Int):=(by omega);have cx:=ea aY;have hx:=rH h6 (List.getElem_mem aY);refine jB (Ai @YI (Ai @g42 (Ai @cl (Ai @aq (Ai @aY @cx))))) ?_;refine jU @g0 fun K hK=>?_;have hxn:u[i]=((u[i]).toNat:Int):=(by omega);refine ad (fB s0 s6 p _ u[i] (by omega) (by refine Nat.le_trans (Nat.add_le_add_right (hlen _) _) ?_;simp[kR];omega) q6) ?_;rintro r s7 ⟨rfl,q7⟩;rw[hxn,fL (by omega),ft,List.append_assoc,←qV,←List.take_succ_eq_append_getElem aY] at q7;refine jR hK ?_;clear hK K;simp only[ar,az,if_true,if_false];refine br _ _ ?_;clear br K3;refine jD (Ai @YI (dZ i (by omega))) ?_;refine⟨⟨i+1,by omega,rfl,g43,g42,g0,q7⟩,?_⟩;simp only[YI,aH,↓reduceIte];omega
    ·refine jB (Ai @YI (Ai @g43 (Ai @aq (decide_eq_false aY)))) ?_;refine wK fun K2 aX=>?_;refine jF ?_;refine aC ?_;simp only[az,ar,if_true];simp only[cf,bt,bD,c7,List.toList_toArray,↓bf];try simp only[UP,DF,Nc,↓reduceIte,DT]
     refine jW ⟨rfl,?_⟩;rw[List.take_of_length_le (by omega)] at q6;rw[Uj];exact q6
 ·rw[decide_eq_false hr];refine jR hK ?_;clear hK K;refine jE ?_;refine jQ fun K hK=>?_;refine ad (fB s0 s' p st (-1) (by omega) (by omega) h) ?_;rintro r s1 ⟨rfl,q1⟩;refine jR hK ?_;clear hK K;refine jI ?_;refine jW ⟨rfl,?_⟩;rw[show dz ⟨k,m,y,pa,u⟩ st=bm 1 (-1) st from(if_neg hr).trans (if_neg (by omega)).symm];exact q1
theorem lU(N:af)(hr:N.right)(s:AS):aj prog Γ 211 [.agg N.cells] s (fun r s'=>r=.v (.string ⟨N.text.toArray⟩)∧s'=s):=by
 refine aa func211 rfl ntmps211 results211 (by simp) ?_;unfold af.cells;obtain⟨k,m,y,pa,u⟩:=N;refine aU 1 (by simp[cq]) ?_;intro K hK;refine jN @aF.eq_1 ?_;intro o ho;refine hK _ _ o _ rfl ho ?_;clear hK K ho;refine wK fun K hK=>?_;rcases iX hr with hk|hk|hk
 ·simp only at hk;subst hk;refine wS fun K hK=>?_;simp only[↓DN,Qa,Qb,Qc,Qd,Qe,Qf,Qg,Qh,reduceCtorEq,↓reduceIte,Na,Nb,Nc,Nk,Nf,Ng,Nh,Za,Zb,Zc,TT,Int.reduceBEq];refine hK _ _ ?_;clear hK K;refine wC fun X Y hX hY=>?_;simp only[UP,DF,Nc,↓reduceIte,DB];refine hX ?_;clear hX hY X Y;refine wS fun K hK=>?_;refine jO ?_;refine hK _ _ ?_;clear hK K;refine a8 ?_;simp only[cf,bt,bD,c7,List.toList_toArray,↓bf];try simp only[UP,DF,Nc,↓reduceIte,DT]
  exact jW ⟨rfl,rfl⟩
 ·obtain⟨h1,h2,⟨h3,h4,h5⟩,h6⟩:=(eY hk).1 hr;simp only at hk h1 h2 h3 h4 h5 h6;subst hk;refine wS fun K hK=>?_;simp only[↓DN,Qa,Qb,Qc,Qd,Qe,Qf,Qg,Qh,reduceCtorEq,↓reduceIte,Na,Nb,Nc,Nk,Nf,Ng,Nh,Za,Zb,Zc,TT,Int.reduceBEq];refine hK _ _ ?_;clear hK K;refine wC fun X Y hX hY=>?_;simp only[UP,DF,Nc,↓reduceIte,DB];refine hY ?_;clear hX hY X Y;refine ab ?_;refine hK _ _ ?_;clear hK K;refine ba T.mixed [2,6] (by kernel_rfl) ?_;intro K hK;refine jM ?_;refine ad (cT y 8 (by omega) (by omega) s) ?_;rintro r s' ⟨rfl,rfl⟩;refine jM ?_;refine ad (eZ pa 1 (by omega) (by omega) _) ?_;rintro r s' ⟨rfl,rfl⟩;refine jN (Ai @cC (bF (show 8+(1+pa.length)<2^62 by omega))) ?_;refine hK _ _ ?_;clear hK K;refine wK fun K hK=>?_;refine wS fun K hK=>?_;simp only[↓DN,Qa,Qb,Qc,Qd,Qe,Qf,Qg,Qh,reduceCtorEq,↓reduceIte,Na,Nb,Nc,Nk,Nf,Ng,Nh,Za,Zb,Zc,TT,Int.reduceBEq];refine hK _ _ ?_;clear hK K;refine wC fun X Y hX hY=>?_;simp only[UP,DF,Nc,↓reduceIte,DB];refine hX ?_;clear hX hY X Y;refine wS fun K hK=>?_;refine jO ?_;refine ad (eZ m 1 (by omega) (by omega) _) ?_;rintro r s' ⟨rfl,rfl⟩;refine jN (Ai @cC (Ai (bF (show 1+(1+m.length)<2^62 by omega)) (Ai (bF (show(1+m.length)+1<2^62 by omega)) (Ai (bF (show 1+(1+m.length)+(8+(1+pa.length))<2^62 by omega)) (bF (show(1+m.length)+1+(8+(1+pa.length))<2^62 by omega)))))) ?_;refine hK _ _ ?_;clear hK K;refine a8 ?_;simp only[cf,bt,bD,c7,List.toList_toArray,↓bf];try simp only[UP,DF,Nc,↓reduceIte,DT]
  refine jW ⟨?_,rfl⟩;simp[af.text,be];rfl
 ·obtain⟨h1,⟨h3,h4,h5⟩,h6⟩:=(fJ hk).1 hr;simp only at hk h1 h3 h4 h5 h6;subst hk;have hu:=nZ h6;refine wS fun K hK=>?_;simp only[↓DN,Qa,Qb,Qc,Qd,Qe,Qf,Qg,Qh,reduceCtorEq,↓reduceIte,Na,Nb,Nc,Nk,Nf,Ng,Nh,Za,Zb,Zc,TT,Int.reduceBEq];refine hK _ _ ?_;clear hK K;refine wC fun X Y hX hY=>?_;simp only[UP,DF,Nc,↓reduceIte,DB];refine hY ?_;clear hX hY X Y;refine ab ?_;refine hK _ _ ?_;clear hK K;refine ba T.mixed [2,6] (by kernel_rfl) ?_;intro K hK;refine jM ?_;refine ad (cT y 8 (by omega) (by omega) s) ?_;rintro r s' ⟨rfl,rfl⟩;refine jM ?_;refine ad (eZ pa 1 (by omega) (by omega) _) ?_;rintro r s' ⟨rfl,rfl⟩;refine jN (Ai @cC (bF (show 8+(1+pa.length)<2^62 by omega))) ?_;refine hK _ _ ?_;clear hK K;refine wK fun K hK=>?_;refine wS fun K hK=>?_;simp only[↓DN,Qa,Qb,Qc,Qd,Qe,Qf,Qg,Qh,reduceCtorEq,↓reduceIte,Na,Nb,Nc,Nk,Nf,Ng,Nh,Za,Zb,Zc,TT,Int.reduceBEq];refine hK _ _ ?_;clear hK K;refine wC fun X Y hX hY=>?_;simp only[UP,DF,Nc,↓reduceIte,DB];refine hY ?_;clear hX hY X Y;refine ab ?_;refine hK _ _ ?_;clear hK K;refine wS fun K hK=>?_;refine jP (Ai @cC (Ai (bF (show 1+(8+(1+pa.length))<2^62 by omega)) (Ai (bF (show(8+(1+pa.length))+1<2^62 by omega)) (sT (show u.length<2^62 by omega))))) ?_;refine ad (cT u.length 1 (by omega) (by omega) _) ?_;rintro r s' ⟨rfl,rfl⟩;refine jN (Ai @cC (Ai (bF (show 1+(8+(1+pa.length))+1<2^62 by omega)) (bF (show(8+(1+pa.length))+1+1<2^62 by omega)))) ?_;refine hK _ _ ?_;clear hK K;refine wK fun K hK=>?_;refine wS fun K hK=>?_;refine jO ?_;refine hK _ _ ?_;clear hK K;refine ah ?_;obtain⟨A,hA⟩:∃A,A=2::(be 8 y++(be 1 pa.length++(pa++be 1 u.length))):=⟨_,rfl⟩;have hAl:A.length≤50:=(by rw[hA];simp;omega);have Uj:af.text ⟨2,m,y,pa,u⟩=A++eu u:=(by rw[hA];simp[af.text,be]);refine aD (fun E s2=>∃i:Nat,i≤u.length∧E 5=.v (.int .i64 i)∧E 4=.v (.string ⟨(A++eu (u.take i)).toArray⟩)∧E 1=.dr [.v (.int .i64 2),.sl 1 m.length (m.map ai) .any,.v (.int .u64 y),.sl 1 pa.length (pa.map ai) .any,.sl 1 u.length (u.map aI) .any]∧s2=s')
   (fun E _=>match E 5 with |.v (.int _ i)=>u.length-i.toNat|_=>0) ?_ ?_
  ·exact⟨0,Nat.zero_le _,rfl,by simp only[aH,Nc,↓reduceIte,hA,eu,List.take_zero,List.map_nil,List.flatten_nil,List.append_nil],rfl,rfl⟩
  ·rintro E1 s6 ⟨i,hi,g5,g4,g1,rfl⟩ -
   refine wK fun K2 aX=>?_;by_cases aY:i<u.length
   ·refine wS fun K hK=>?_;refine jP (Ai @g5 (Ai @g1 (Ai @aq (decide_eq_true aY)))) ?_;refine hK _ _ ?_;clear hK K;refine wC fun X Y hX hY=>?_;simp only[UP,DF,Nc,↓reduceIte,DB];refine hX ?_;clear hX hY X Y;refine ab ?_;refine aX _ _ ?_;clear aX K2;refine wK fun K3 br=>?_;refine ah ?_;have cl:(0:Int)≤(i:Int):=(by omega);have cx:=ea aY;have hx:=rH h6 (List.getElem_mem aY);have Uk:cG .u64 u[i]=((u[i].toNat:Nat):Int):=by
     have e:u[i]=((u[i].toNat:Nat):Int):=(by omega);rw[e];exact sT (by omega)
    refine wE fun K hK=>?_;refine jP (Ai @g5 (Ai @g4 (Ai @g1 (Ai @cl (Ai @aq (Ai @aY (Ai @cx @Uk))))))) ?_;refine ad (cT u[i].toNat 1 (by omega) (by omega) _) ?_;rintro r s7 ⟨rfl,rfl⟩;refine jN (Ai @cC (bF (show A.length+(eu (u.take i)).length+1<2^62 by rw[kR,List.length_take];omega))) ?_;refine hK _ _ ?_;clear hK K;simp only[ar,az,if_true,if_false];refine br _ _ ?_;clear br K3;refine wE fun K hK=>?_;refine jP (Ai @g5 (dZ i (by omega))) ?_;refine hK _ _ ?_;clear hK K;refine⟨⟨i+1,by omega,rfl,by simp only[aH,Nc,↓reduceIte];rw[List.take_succ_eq_append_getElem aY,qV],g1,rfl⟩,?_⟩;simp only[g5,aH,↓reduceIte];omega
   ·refine wS fun K hK=>?_;refine jP (Ai @g5 (Ai @g1 (Ai @aq (decide_eq_false aY)))) ?_;refine hK _ _ ?_;clear hK K;refine wC fun X Y hX hY=>?_;simp only[UP,DF,Nc,↓reduceIte,DB];refine hY ?_;clear hX hY X Y;refine aC ?_;simp only[az,ar,if_true];refine hK _ _ ?_;clear hK aX K K2;refine wS fun K hK=>?_;refine jP @g4 ?_;refine hK _ _ ?_;clear hK K;refine a8 ?_;simp only[cf,bt,bD,c7,List.toList_toArray,↓bf];try simp only[UP,DF,Nc,↓reduceIte,DT]
    refine jW ⟨?_,rfl⟩;rw[List.take_of_length_le (by omega),Uj]
theorem om(t:List af)(ht:t.length≤2^61)(s:AS):aj prog Γ 104 [aW t] s (fun r s'=>r=.v (.int .i64 (aM t))∧s'=s):=by
 refine aa func104 rfl ntmps104 results104 (by simp) ?_;have e0:kK .i64 (ec .i64 (t.length:Int) 1) 2=((((t.length+1)/2:Nat)):Int):=(by rw[bp _ (by omega),dv _ (by omega)]);obtain⟨h,hh⟩:∃h,h=(t.length+1)/2:=⟨_,rfl⟩;rw[←hh] at e0;unfold aW;refine jA ?_;refine jB @e0 ?_;refine wK fun K hK=>?_;refine jQ fun K hK=>?_;refine ad (th h _) ?_;rintro r s1 ⟨rfl,rfl⟩;by_cases hf:Fit h
 ·have T1:=hf.le;rw[decide_eq_true (nj.2 hf)];refine jM ?_;refine ad (qX h _) ?_;rintro r s2 ⟨rfl,rfl⟩;rw[Ee hf];by_cases hw:t.length=2*h-1
  ·have hl:aM t=h:=(by unfold aM;rw[←hh];exact if_pos ⟨hf,hw⟩);refine jV (KY hw) hK ?_;clear hK K;refine jF ?_;refine ab ?_;refine hK _ _ ?_;clear hK K;refine jA ?_;refine jI ?_;rw[hl];exact jW ⟨rfl,rfl⟩
  ·have hl:aM t=0:=(by unfold aM;rw[←hh];exact if_neg (fun k=>hw k.2));refine jV (KX hw) hK ?_;clear hK K;refine jE ?_;refine jA ?_;refine jI ?_;rw[hl];exact jW ⟨rfl,rfl⟩
 ·have hl:aM t=0:=(by unfold aM;rw[←hh];exact if_neg (fun k=>hf k.1));rw[decide_eq_false (fun k=>hf (nj.1 k))];refine jR hK ?_;clear hK K;refine jE ?_;refine jA ?_;refine jI ?_;rw[hl];exact jW ⟨rfl,rfl⟩
theorem lg(t:List af)(ht:t.length≤2^61)(i:Int)(s:AS):aj prog Γ 142 [aW t,.v (.int .i64 i)] s (fun r s'=>r=.v (.bool (decide (eg t i)))∧s'=s):=by
 refine aa func142 rfl ntmps142 results142 (by simp) ?_;have oo:=fun s=>om (Γ:=Γ) t ht s;unfold aW at oo⊢;refine jA ?_;by_cases h0:0≤i
 ·refine jS (decide_eq_true h0) fun K hK=>?_;refine ad (oo _) ?_;rintro r s1 ⟨rfl,rfl⟩;by_cases h1:i<(aM t:Int)
  ·obtain⟨n,rfl⟩:=Int.eq_ofNat_of_zero_le h0;have hn:n<aM t:=(by omega);have YJ:=Ll hn;have X4:=Ct t;have cx:=cK YJ;have hk:decide (eg t (n:Int))=((nd t (2*n)).kind==1):=by
    rw[Bool.eq_iff_iff,decide_eq_true_iff,beq_iff_eq];unfold eg;rw[Int.toNat_natCast];exact⟨fun k=>k.2.2,fun k=>⟨h0,h1,k⟩⟩
   generalize nd t (2*n)=N at *
   generalize aK af.cells t=X at *
   obtain⟨k,nm,y,pa,u⟩:=N;unfold af.cells at cx;have cl:(0:Int)≤((2*n:Nat):Int):=(by omega);refine jV (Ai (decide_eq_true h1) (Ai (decide_eq_true hn) (Ai (bE n (by omega)) (Ai @aq (Ai @YJ (Ai @cl @cx)))))) hK ?_;clear hK K;refine jI ?_;rw[hk];exact jW ⟨rfl,rfl⟩
  ·have hk:decide (eg t i)=false:=decide_eq_false fun k=>h1 k.2.1;refine jV (decide_eq_false h1) hK ?_;clear hK K;refine jI ?_;rw[hk];exact jW ⟨rfl,rfl⟩
 ·have hk:decide (eg t i)=false:=decide_eq_false fun k=>h0 k.1;refine jB (decide_eq_false h0) ?_;refine jI ?_;rw[hk];exact jW ⟨rfl,rfl⟩
theorem Ah(t:List af)(ht:t.length≤2^61)(a k:Nat)(hak:a+k<2^61)(s:AS):aj prog Γ 144 [aW t,.v (.int .i64 a),.v (.int .i64 (((a+k:Nat):Int)-1))] s (fun r s'=>r=.v (.int .i64 (fS (eg t) a k))∧s'=s):=by
 refine aa func144 rfl ntmps144 results144 (by simp) ?_;have hm:=fun i s=>lg (Γ:=Γ) t ht i s;unfold aW at hm⊢;generalize aK af.cells t=X at *
 refine jA ?_;refine jA ?_;refine wK fun K hK=>?_;refine jA ?_;refine ah ?_;refine aD (fun E s2=>∃i:Nat,i≤k∧E 8=.v (.int .i64 ((a+i:Nat):Int))∧E 7=.v (.int .i64 (fS (eg t) a i))∧E 0=.sl 5 t.length X .any∧E 2=.v (.int .i64 (((a+k:Nat):Int)-1))∧s2=s)
  (fun E _=>match E 8 with |.v (.int _ i)=>a+k-i.toNat|_=>0) ?_ ?_
 ·exact⟨0,Nat.zero_le _,rfl,rfl,rfl,rfl,rfl⟩
 ·rintro E1 s2 ⟨i,hi,g8,g7,g0,g2,rfl⟩ -
  refine wK fun K2 aX=>?_;by_cases aY:i<k
  ·have h1:decide (((a+i:Nat):Int)≤((a+k:Nat):Int)-1)=true:=decide_eq_true (by omega);refine jB (Ai @g8 (Ai @g2 @h1)) ?_;refine jE ?_;refine ab ?_;refine aX _ _ ?_;clear aX K2;refine wK fun K3 br=>?_;refine ah ?_;have bG:∀(E:Env),E 8=.v (.int .i64 ((a+i:Nat):Int))→E 7=.v (.int .i64 (fS (eg t) a (i+1)))→E 0=.sl 5 t.length X .any→E 2=.v (.int .i64 (((a+k:Nat):Int)-1))→K3 E s2:=by
    intro E f8 f7 f0 f2;refine br _ _ ?_;clear br K3;refine jD (Ai @f8 (bp (a+i) (by omega))) ?_;refine⟨⟨i+1,aY,rfl,f7,f0,f2,rfl⟩,?_⟩;simp only[g8,aH,↓reduceIte];omega
   clear br;refine jS (Ai @g0 @g8) fun K hK=>?_;refine ad (hm _ _) ?_;rintro r s3 ⟨rfl,rfl⟩;have hc:=Cz (eg t) a i;by_cases hp:eg t ((a+i:Nat):Int)
   ·rw[decide_eq_true hp];refine jR hK ?_;clear hK K;refine jE ?_;refine jD (Ai @g7 (bp (fS (eg t) a i) (by omega))) ?_;refine bG _ g8 ?_ g0 g2;have :fS (eg t) a (i+1)=fS (eg t) a i+1:=(by simp only[fS];rw[if_pos hp]);rw[this];simp only[aH,Nc,↓reduceIte]
   ·rw[decide_eq_false hp];refine jR hK ?_;clear hK K;refine jF ?_;refine ab ?_;refine bG _ g8 ?_ g0 g2;have :fS (eg t) a (i+1)=fS (eg t) a i:=(by simp only[fS];rw[if_neg hp];omega);rw[this];simp only[aH,g7,Nc,↓reduceIte]
  ·have h1:decide (((a+i:Nat):Int)≤((a+k:Nat):Int)-1)=false:=decide_eq_false (by omega);refine jB (Ai @g8 (Ai @g2 @h1)) ?_;refine jF ?_;refine aC ?_;simp only[az,ar,if_true];refine hK _ _ ?_;clear hK aX K2 K;obtain rfl:i=k:=(by omega);refine jB @g7 ?_;exact jJ
theorem Aj(t:List af)(ht:t.length≤2^61)(name:List UInt8)(a:Nat)(ha:a≤2^60)(s:AS):aj prog Γ 143 [aW t,al name .any,.v (.int .i64 a)] s (fun r s'=>r=.v (.int .i64 (og t name a))∧s'=s):=by
 refine aa func143 rfl ntmps143 results143 (by simp) ?_;have hm:=fun i s=>lg (Γ:=Γ) t ht i s;have cx:=fun i(h:i<t.length)=>cK (t:=t) h;obtain⟨Q,hQ⟩:∃Q:Nat→Bool,Q=fun(j:Nat)=>decide (eg t (j:Int)∧(nd t (2*j)).name=name):=⟨_,rfl⟩;have dJ:og t name a=cc Q (gJ t-a) a:=(by rw[hQ];rfl);unfold aW at hm⊢;generalize aK af.cells t=X at *
 refine jA ?_;refine wK fun K hK=>?_;refine jA ?_;refine ah ?_;refine aD (fun E s2=>∃i:Nat,i≤2^61∧a≤i∧cc Q (gJ t-i) i=cc Q (gJ t-a) a∧E 7=.v (.int .i64 i)∧E 0=.sl 5 t.length X .any∧E 1=.sl 1 name.length (name.map ai) .any∧s2=s)
  (fun E _=>match E 7 with |.v (.int _ i)=>gJ t-i.toNat|_=>0) ?_ ?_
 ·exact⟨a,by omega,Nat.le_refl _,rfl,rfl,rfl,rfl,rfl⟩
 ·rintro E1 s2 ⟨i,hi,hai,hf,g7,g0,g1,rfl⟩ -
  refine wK fun K2 aX=>?_;by_cases aY:i<gJ t
  ·have fj:2*i<t.length:=yE.1 aY;refine jB (Ai @g7 (Ai @g0 (Ai (bE i (by omega)) (Ai @aq (decide_eq_true fj))))) ?_;refine jE ?_;refine ab ?_;refine aX _ _ ?_;clear aX K2;refine wK fun K3 br=>?_;refine ah ?_;obtain⟨k,hk⟩:∃k,gJ t-i=k+1:=⟨gJ t-i-1,by omega⟩;have tj:gJ t-(i+1)=k:=(by omega);rw[hk] at hf;have zw:Q i=decide (eg t i∧(nd t (2*i)).name=name):=(by rw[hQ]);have bG:∀(E:Env),Q i=false→E 7=.v (.int .i64 i)→E 0=.sl 5 t.length X .any→E 1=.sl 1 name.length (name.map ai) .any→K3 E s2:=by
    intro E hq f7 f0 f1;refine br _ _ ?_;clear br K3;refine jD (Ai @f7 (bp i (by omega))) ?_;refine⟨⟨i+1,by omega,by omega,by rw[tj,←hf,jY hq],rfl,f0,f1,rfl⟩,?_⟩;simp only[g7,aH,↓reduceIte];omega
   clear br;have iK:=cx (2*i) fj;generalize nd t (2*i)=N at *
   obtain⟨nk,nm,ny,jj,nu⟩:=N;unfold af.cells at iK;simp only at zw;have cl:(0:Int)≤((2*i:Nat):Int):=(by omega);refine jS (Ai @g0 @g7) fun K hK=>?_;refine ad (hm _ _) ?_;rintro r s3 ⟨rfl,rfl⟩;by_cases hp:eg t (i:Int)
   ·rw[decide_eq_true hp];refine jN (Ai @g0 (Ai @g7 (Ai @g1 (Ai (bE i (by omega)) (Ai @aq (Ai @fj (Ai @cl @iK))))))) ?_;refine ad (dg nm name _) ?_;rintro r s4 ⟨rfl,rfl⟩;by_cases hn:nm=name
    ·rw[decide_eq_true hn];rw[decide_eq_true ⟨hp,hn⟩] at zw;refine jR hK ?_;clear hK K;refine jE ?_;refine jB @g7 ?_;refine jI ?_;rw[dJ,←hf,jX zw];exact jW ⟨rfl,rfl⟩
    ·rw[decide_eq_false hn];rw[decide_eq_false (fun q=>hn q.2)] at zw;refine jR hK ?_;clear hK K;refine jF ?_;refine ab ?_;exact bG _ zw g7 g0 g1
   ·rw[decide_eq_false hp];rw[decide_eq_false (fun q=>hp q.1)] at zw;refine jR hK ?_;clear hK K;refine jF ?_;refine ab ?_;exact bG _ zw g7 g0 g1
  ·have fj:¬2*i<t.length:=fun h=>aY (yE.2 h);refine jB (Ai @g7 (Ai @g0 (Ai (bE i (by omega)) (Ai @aq (decide_eq_false fj))))) ?_;refine jF ?_;refine aC ?_;simp only[az,ar,if_true];refine hK _ _ ?_;clear hK aX K2 K;rw[show gJ t-i=0 by omega] at hf;refine jA ?_;refine jI ?_;rw[dJ,←hf];exact jW ⟨rfl,rfl⟩
theorem oJ(l:List Int)(hl:l.length≤2^61)(k:FuncId)(hk:ag prog k=true)(cd:List AV)(P:Int→Bool)
  (hP:∀x∈l,∀s,aj prog Γ k (.v (.int .i64 x)::cd) s (fun r s'=>r=.v (.bool (P x))∧s'=s)) (s:AS):
  aj prog Γ 71 [aF l .any,.qx k cd] s (fun r s'=>r=.v (.int .i64 (cc (fun i=>P (l.getD i 0)) l.length 0))∧s'=s):=by
 refine aa func71 rfl ntmps71 results71 (by simp) ?_;obtain⟨Q,hQ⟩:∃Q:Nat→Bool,Q=fun i=>P (l.getD i 0):=⟨_,rfl⟩;rw[←hQ];unfold aF;refine jA ?_;refine wK fun K hK=>?_;refine jA ?_;refine ah ?_;refine aD (fun E s2=>∃i:Nat,i≤l.length∧cc Q (l.length-i) i=cc Q l.length 0∧E 8=.v (.int .i64 i)∧E 7=.v (.int .i64 l.length)∧E 0=.sl 1 l.length (l.map aI) .any∧E 1=.qx k cd∧s2=s)
  (fun E _=>match E 8 with |.v (.int _ i)=>l.length-i.toNat|_=>0) ?_ ?_
 ·exact⟨0,Nat.zero_le _,rfl,rfl,rfl,rfl,rfl,rfl⟩
 ·rintro E1 s2 ⟨i,hi,hf,g8,g7,g0,g1,rfl⟩ -
  by_cases aY:i<l.length
  ·refine jB (Ai @g8 (Ai @g7 (Ai @aq (decide_eq_true aY)))) ?_;refine wK fun K2 aX=>?_;refine jE ?_;refine ab ?_;refine aX _ _ ?_;clear aX K2;refine wK fun K3 br=>?_;refine ah ?_;have zw:Q i=P l[i]:=(by rw[hQ];simp[List.getD,aY]);have hc:=hP l[i] (List.getElem_mem aY) s2;rw[←zw] at hc;obtain⟨k',Fy⟩:∃k',l.length-i=k'+1:=⟨l.length-i-1,by omega⟩;have Da:l.length-(i+1)=k':=(by omega);rw[Fy] at hf;have cx:=ea aY;have cl:(0:Int)≤(i:Int):=(by omega);refine jB @g8 ?_;refine jS (Ai @g1 (Ai @g0 (Ai @aq (Ai @aY (Ai @cl @cx))))) fun K hK=>?_;refine⟨hk,?_⟩;refine ad hc ?_;rintro r s3 ⟨rfl,rfl⟩;cases hq:Q i with
   |true=>
    refine jR hK ?_;clear hK K;refine jE ?_;refine jA ?_;refine jI ?_;rw[←hf,jX hq];exact jW ⟨rfl,rfl⟩
   |false=>
    refine jR hK ?_;clear hK K;refine jF ?_;refine ab ?_;simp only[ar,az,if_true,if_false];refine br _ _ ?_;clear br K3;refine jD (Ai @g8 (bp i (by omega))) ?_;refine⟨⟨i+1,by omega,by rw[Da,←hf,jY hq],rfl,g7,g0,g1,rfl⟩,?_⟩;simp only[g8,aH,↓reduceIte];omega
  ·refine jB (Ai @g8 (Ai @g7 (Ai @aq (decide_eq_false aY)))) ?_;refine wK fun K2 aX=>?_;refine jF ?_;refine aC ?_;simp only[az,ar,if_true];refine hK _ _ ?_;clear hK aX K2 K;rw[show l.length-i=0 by omega] at hf;refine jA ?_;refine jI ?_;rw[←hf];exact jW ⟨rfl,rfl⟩
theorem rW(l:List Int)(hl:l.length≤2^61)(k:FuncId)(hk:ag prog k=true)(cd:List AV)(P:Int→Bool)
  (hP:∀x∈l,∀s,aj prog Γ k (.v (.int .i64 x)::cd) s (fun r s'=>r=.v (.bool (P x))∧s'=s)) (s:AS):
  aj prog Γ 179 [aF l .any,.qx k cd] s (fun r s'=>r=.v (.bool (l.any P))∧s'=s):=by
 refine aa func179 rfl ntmps179 results179 (by simp) ?_;have hc:=fun s=>oJ (Γ:=Γ) l hl k hk cd P hP s;have ha:=yF P l;generalize cc (fun i=>P (l.getD i 0)) l.length 0=n at *
 refine jA ?_;refine jK (hc _) ?_;rintro s1 rfl;refine jI ?_;rw[←ha];exact jW ⟨rfl,rfl⟩
theorem EK:ag prog 178=true:=by kernel_rfl
def lV(t:List af)(a b:Int)(u:Int):Bool:=decide (u<a)||(decide (b<u)|| !decide (eg t u))
theorem Ak(t:List af)(ht:t.length≤2^61)(a b u:Int)(s:AS):aj prog Γ 178 [.v (.int .i64 u),.dr [.v (.int .i64 a)],.dr [.v (.int .i64 b)],.dr [aW t]] s (fun r s'=>r=.v (.bool (lV t a b u))∧s'=s):=by
 refine aa func178 rfl ntmps178 results178 (by simp) ?_;have hm:=fun i s=>lg (Γ:=Γ) t ht i s;unfold aW at hm⊢;generalize aK af.cells t=X at *
 unfold lV;refine jA ?_;by_cases h1:u<a
 ·have hr:(decide (u<a)||(decide (b<u)|| !decide (eg t u)))=true:=(by rw[decide_eq_true h1];rfl);refine jB (decide_eq_true h1) ?_;refine jI ?_;rw[hr];exact jW ⟨rfl,rfl⟩
 ·by_cases h2:b<u
  ·have hr:(decide (u<a)||(decide (b<u)|| !decide (eg t u)))=true:=(by rw[decide_eq_true h2,decide_eq_false h1];rfl);refine jB (Ai (decide_eq_false h1) (decide_eq_true h2)) ?_;refine jI ?_;rw[hr];exact jW ⟨rfl,rfl⟩
  ·have hr:(decide (u<a)||(decide (b<u)|| !decide (eg t u)))= !decide (eg t u):=(by rw[decide_eq_false h2,decide_eq_false h1];rfl);refine jS (Ai (decide_eq_false h1) (decide_eq_false h2)) fun K hK=>?_;refine ad (hm _ _) ?_;rintro r s1 ⟨rfl,rfl⟩;refine jR hK ?_;clear hK K;refine jI ?_;rw[hr];exact jW ⟨rfl,rfl⟩
theorem CK(hG:Γ 3=fu.map pn)(t:List af)(ht:dE t)(i:Nat)(hi:i<t.length)(s:AS):aj prog Γ 141 [aW t,.v (.int .i64 i)] s (fun r s'=>r=.v (.bool (decide (qa t i)))∧s'=s):=by
 refine aa func141 rfl ntmps141 results141 (by simp) ?_;have hun:=fun s=>qW (Γ:=Γ) hG (i:Int) s;obtain⟨a,ha⟩:∃a,a=(ju (i:Int)).1:=⟨_,rfl⟩;obtain⟨b,hb⟩:∃b,b=(ju (i:Int)).2:=⟨_,rfl⟩;rw[←ha,←hb] at hun;have hfo:=fun u s=>Ak (Γ:=Γ) t ht.1 a b u s;have cx:=cK hi;have hN:=ht.nd i;have cu:qa t i↔(nd t i).right∧((nd t i).kind=0∨((nd t i).kind=1↔i%2=0))∧((nd t i).ig.any (lV t a b))=false:=by
  unfold qa;rw[←ha,←hb];simp only[List.any_eq_false,lV,Bool.or_eq_true,decide_eq_true_eq,Bool.not_eq_true',decide_eq_false_iff_not,not_or,Int.not_lt,Decidable.not_not]
 have L0:=fun s=>kE (Γ:=Γ) (nd t i) hN.1 s;have Ul:=fun s=>rW (Γ:=Γ) (nd t i).ig hN.1 _ EK [.dr [.v (.int .i64 a)],.dr [.v (.int .i64 b)],.dr [aW t]] (lV t a b) (fun x _ s=>hfo x s) s;have GN:decide (qa t i)=(decide (nd t i).right&&(((nd t i).kind==0||(((nd t i).kind==1)==(i%2==0)))&& !((nd t i).ig.any (lV t a b)))):=by
  rw[Bool.eq_iff_iff,decide_eq_true_iff,cu];simp only[Bool.and_eq_true,decide_eq_true_eq,Bool.or_eq_true,beq_iff_eq,Bool.not_eq_true',Bool.beq_eq_decide_eq];constructor
  ·rintro⟨x,y,z⟩;exact⟨x,y.imp id (fun q=>by rw[Bool.eq_iff_iff,decide_eq_true_iff,decide_eq_true_iff];exact q),z⟩
  ·rintro⟨x,y,z⟩;exact⟨x,y.imp id (fun q=>by rw[Bool.eq_iff_iff,decide_eq_true_iff,decide_eq_true_iff] at q;exact q),z⟩
 clear cu;generalize List.any (nd t i).ig (lV t a b)=F at *
 unfold aW at Ul⊢;generalize aK af.cells t=X at *
 clear hfo;generalize decide (qa t i)=Pb at *
 generalize decide (nd t i).right=RT at *
 generalize nd t i=N at *
 obtain⟨nk,nm,ny,jj,nu⟩:=N;unfold af.cells at cx L0;simp only at GN Ul;unfold aF at Ul cx L0;have cl:(0:Int)≤(i:Int):=(by omega);have aY:i<t.length:=hi;refine aU 2 (by decide) ?_;intro K hK;refine jM ?_;intro o1 h1;refine hK _ _ o1 _ rfl h1 ?_;clear hK K h1;refine aU 5 (by decide) ?_;intro K hK;refine jN (Ai @aq (Ai @aY (Ai @cl @cx))) ?_;intro o1 h1;refine hK _ _ o1 _ rfl h1 ?_;clear hK K h1;refine ic 6 7 (by decide) (by decide) (by decide) ?_;intro K hK;refine jM ?_;refine ad (hun _) ?_;rintro r s1 ⟨rfl,rfl⟩;refine jM ?_;intro o1 xr o2 qG;have dK:o1≠o2:=(by rintro rfl;simp at qG);have Dy:=dK.symm;simp only[dK,Dy,if_true,if_false,↓reduceIte,List.set_cons_zero,List.set_cons_succ,List.length_cons,List.length_nil,Nat.reduceAdd,Nat.le_refl,true_and];rw[KA dK];refine hK _ _ o1 o2 _ _ rfl rfl xr (by rw[AS.ao _ Dy];simpa[Dy] using qG) ?_;clear hK K xr qG dK Dy;refine jA ?_;have qS:iG (i:Int) 2=((i%2:Nat):Int):=lH i 2;have bb:((true==true)=true∧(false==false)=true)∧((true==false)=false∧(false==true)=false):=⟨⟨rfl,rfl⟩,rfl,rfl⟩;cases RT with
 |false=>
  refine jK (L0 _) ?_;rintro s2 rfl;refine jI ?_;rw[GN];exact jW ⟨rfl,rfl⟩
 |true=>
  by_cases k0:nk=0
  ·have t0:=lN k0;refine jQ fun K hK=>?_;refine ad (L0 _) ?_;rintro r s2 ⟨rfl,rfl⟩;simp only[↓DM,bN,DX,Nz,↓DN,Qa,Qb,Qc,Qd,Qe,Qf,Qg,Qh,reduceCtorEq,↓reduceIte,Na,Nb,Nc,Nk,Nf,Ng,Nh,Za,Zb,Zc,TT,t0];refine ad (Ul _) ?_;rintro r s3 ⟨rfl,rfl⟩;refine jR hK ?_;clear hK K;refine jI ?_;have NG:(true&&((nk==0||((nk==1)==(i%2==0)))&& !F))= !F:=(by rw[t0];cases F<;>rfl);rw[GN,NG];exact jW ⟨rfl,rfl⟩
  ·have t0:=jv k0;by_cases k1:nk=1
   ·have t1:=lN k1;by_cases kp:i%2=0
    ·have t2:(iG (i:Int) 2==0)=true:=(by rw[qS];exact lN (by omega));have t3:(i%2==0)=true:=(by simpa using kp);have NG:(true&&((nk==0||((nk==1)==(i%2==0)))&& !F))= !F:=(by rw[t0,t1,t3];cases F<;>rfl);refine jQ fun K hK=>?_;refine ad (L0 _) ?_;rintro r s2 ⟨rfl,rfl⟩;simp only[↓DM,bN,DX,Nz,↓DN,Qa,Qb,Qc,Qd,Qe,Qf,Qg,Qh,reduceCtorEq,↓reduceIte,Na,Nb,Nc,Nk,Nf,Ng,Nh,Za,Zb,Zc,TT,t0,t1,kS,t2,bb];refine ad (Ul _) ?_;rintro r s3 ⟨rfl,rfl⟩;refine jR hK ?_;clear hK K;refine jI ?_;rw[GN,NG];exact jW ⟨rfl,rfl⟩
    ·have t2:(iG (i:Int) 2==0)=false:=(by rw[qS];exact jv (by omega));have t3:(i%2==0)=false:=(by simpa using kp);have NG:(true&&((nk==0||((nk==1)==(i%2==0)))&& !F))=false:=(by rw[t0,t1,t3];cases F<;>rfl);refine jQ fun K hK=>?_;refine ad (L0 _) ?_;rintro r s2 ⟨rfl,rfl⟩;simp only[↓DM,bN,DX,Nz,↓DN,Qa,Qb,Qc,Qd,Qe,Qf,Qg,Qh,reduceCtorEq,↓reduceIte,Na,Nb,Nc,Nk,Nf,Ng,Nh,Za,Zb,Zc,TT,t0,t1,kS,t2,bb];refine hK _ _ ?_;clear hK K;refine jI ?_;rw[GN,NG];exact jW ⟨rfl,rfl⟩
   ·have t1:=jv k1;by_cases kp:i%2=0
    ·have t2:(iG (i:Int) 2==0)=true:=(by rw[qS];exact lN (by omega));have t3:(i%2==0)=true:=(by simpa using kp);have NG:(true&&((nk==0||((nk==1)==(i%2==0)))&& !F))=false:=(by rw[t0,t1,t3];cases F<;>rfl);refine jQ fun K hK=>?_;refine ad (L0 _) ?_;rintro r s2 ⟨rfl,rfl⟩;simp only[↓DM,bN,DX,Nz,↓DN,Qa,Qb,Qc,Qd,Qe,Qf,Qg,Qh,reduceCtorEq,↓reduceIte,Na,Nb,Nc,Nk,Nf,Ng,Nh,Za,Zb,Zc,TT,t0,t1,kS,t2,bb];refine hK _ _ ?_;clear hK K;refine jI ?_;rw[GN,NG];exact jW ⟨rfl,rfl⟩
    ·have t2:(iG (i:Int) 2==0)=false:=(by rw[qS];exact jv (by omega));have t3:(i%2==0)=false:=(by simpa using kp);have NG:(true&&((nk==0||((nk==1)==(i%2==0)))&& !F))= !F:=(by rw[t0,t1,t3];cases F<;>rfl);refine jQ fun K hK=>?_;refine ad (L0 _) ?_;rintro r s2 ⟨rfl,rfl⟩;simp only[↓DM,bN,DX,Nz,↓DN,Qa,Qb,Qc,Qd,Qe,Qf,Qg,Qh,reduceCtorEq,↓reduceIte,Na,Nb,Nc,Nk,Nf,Ng,Nh,Za,Zb,Zc,TT,t0,t1,kS,t2,bb];refine ad (Ul _) ?_;rintro r s3 ⟨rfl,rfl⟩;refine jR hK ?_;clear hK K;refine jI ?_;rw[GN,NG];exact jW ⟨rfl,rfl⟩
end Go.Proofs.YtbiefppedlodiaaGreatDoor
