/- Contracts of functions, each walked once; each theorem states its conditions. -/
import Derived.Test.YtbiefppedlodiaaGreatDoorAMp6
import Derived.Test.YtbiefppedlodiaaGreatDoorW1
import Derived.Test.YtbiefppedlodiaaGreatDoorW2
import Derived.Test.YtbiefppedlodiaaGreatDoorAMp5
set_option linter.unusedSimpArgs false
set_option linter.unusedVariables false
open Nat renaming reduceLT → Na, reduceLeDiff → Nb, reduceEqDiff → Nc, reduceAdd → Nk, reduceMul → Nf, reducePow → Ng, reduceSub → Nh, reduceBEq → Nz
open Int renaming reduceLT → Za, reduceLE → Zb, reduceToNat → Zc
open And renaming intro → Ai
open Go.AM renaming ashift → Qa, aconv → Qb, aindexAddr → Qc, aindex → Qd, aslice → Qe, abuiltin → Qf, awp_reg_seq → wS, awp_reg_end → wE, awp_seq_k → wK, awp_cond_k → wC
open Go.AM.AV renaming cells → Qg, one → Qh
set_option maxRecDepth 100000
set_option maxHeartbeats 8000000
namespace Go.Proofs.YtbiefppedlodiaaGreatDoor
open Go Go.AM Go.Proofs Tryz
variable{Γ:Nat→List AV}
theorem cn(n:Nat)(s:AS):aj prog Γ 44 [.v (.int .u64 n)] s (fun r s'=>r=.v (.bool (decide (2≤(n:Int))&&decide ((n:Int)≤2305843009213693949)))∧s'=s):=by
 refine aa func44 rfl ntmps44 results44 (by simp) ?_;rcases ff2 (decide (2≤(n:Int))) (decide ((n:Int)≤2305843009213693949)) with hd|hd|hd;all_goals
  refine jA ?_;refine jB @hd ?_;refine jI ?_;refine jW ⟨?_,rfl⟩;simp only[hd,Bool.and_true,Bool.true_and,Bool.false_and,Bool.and_false]
theorem vj(n:Nat)(s:AS):aj prog Γ 53 [.v (.int .u64 n)] s (fun r s'=>r=.v (.bool (decide (2≤(n:Int))&&decide ((n:Int)≤2305843009213693949)))∧s'=s):=by
 refine aa func53 rfl ntmps53 results53 (by simp) ?_;rcases ff2 (decide (2≤(n:Int))) (decide ((n:Int)≤2305843009213693949)) with hd|hd|hd;all_goals
  refine jA ?_;refine jB @hd ?_;refine jI ?_;refine jW ⟨?_,rfl⟩;simp only[hd,Bool.and_true,Bool.true_and,Bool.false_and,Bool.and_false]
theorem dc(a b:List UInt8)(s:AS):aj prog Γ 62 [al a .any,al b .any] s (fun r s'=>r=.v (.bool (decide (a=b)))∧s'=s):=by
 refine aa func62 rfl ntmps62 results62 (by simp) ?_;refine jA ?_;refine jB @tg ?_;exact jJ
theorem ru{a b:Nat}(h:a=b):(((a:Int) != (b:Int)))=false:=by subst h;simp
theorem ud{a b:Nat}(h:a≠b):(((a:Int) != (b:Int)))=true:=by simp;omega
theorem gK{a b:Int}(h:a=b):(a != b)=false:=by subst h;simp
theorem gb{a b:Int}(h:a≠b):(a != b)=true:=by simpa using h
theorem ue(a b:List Int)(hl:a.length≤2^61)(s:AS):aj prog Γ 231 [aG a .any,aG b .any] s (fun r s'=>r=.v (.bool (decide (a=b)))∧s'=s):=by
 refine aa func231 rfl ntmps231 results231 (by simp) ?_;unfold aG;refine jA ?_;refine wK fun K hK=>?_;by_cases h0:a.length=b.length
 ·refine jB (ru h0) ?_;refine jF ?_;refine ab ?_;refine hK _ _ ?_;clear hK K;refine wK fun K hK=>?_;refine jA ?_;refine ag ?_;refine aD (fun E s1=>∃i:Nat,i≤a.length∧E 13=.v (.int .i64 i)∧E 12=.v (.int .i64 a.length)∧E 0=.sl 1 a.length (a.map aJ) .any∧E 1=.sl 1 b.length (b.map aJ) .any∧a.take i=b.take i∧s1=s)
   (fun E _=>match E 13 with |.v (.int _ i)=>a.length-i.toNat|_=>0) ?_ ?_
  ·exact⟨0,Nat.zero_le _,by simp[aB],by simp[aB],by simp[aB,bx],by simp[aB,bx],rfl,rfl⟩
  ·rintro E1 s1 ⟨i,hi,Mo,Ae,PO,h1,he,rfl⟩ -
   by_cases aY:i<a.length
   ·have DD:i<b.length:=(by omega);refine jB (Ai @Mo (Ai @Ae (Ai @au (decide_eq_true aY)))) ?_;refine wK fun K2 aU=>?_;refine jE ?_;refine ab ?_;refine aU _ _ ?_;clear aU K2;refine wK fun K3 bq=>?_;refine ag ?_;refine jB @Mo ?_;have cA:(0:Int)≤(i:Int):=(by omega);have cT:=eB aY;have Zr:=eB DD;by_cases hx:a[i]=b[i]
    ·refine bj T.mixed [] (by kernel_rfl) ?_;intro K hK;refine jV (Ai @Mo (Ai @PO (Ai @h1 (Ai @cA (Ai @au (Ai @aY (Ai @DD (Ai @cT (Ai @Zr (gK hx)))))))))) hK ?_;clear hK K;refine jF ?_;refine ab ?_;simp only[aq,aA,if_true,if_false];refine bq _ _ ?_;clear bq K3;refine jD (Ai @Mo (eG i (by omega))) ?_;refine⟨⟨i+1,by omega,rfl,Ae,PO,h1,tw aY DD he hx,rfl⟩,?_⟩;simp only[Mo,aB,↓reduceIte];omega
    ·refine bj T.mixed [] (by kernel_rfl) ?_;intro K hK;refine jV (Ai @Mo (Ai @PO (Ai @h1 (Ai @cA (Ai @au (Ai @aY (Ai @DD (Ai @cT (Ai @Zr (gb hx)))))))))) hK ?_;clear hK K;refine jE ?_;refine jA ?_;refine a7 ?_;simp only[aA,aq];simp only[ck,bz,bF,dm,List.toList_toArray,↓bg];try simp only[UP,DF,Nc,↓reduceIte,DT]
     refine jW ⟨?_,rfl⟩;rw[decide_eq_false];intro e;subst e;exact hx rfl
   ·refine jB (Ai @Mo (Ai @Ae (Ai @au (decide_eq_false aY)))) ?_;refine wK fun K2 aU=>?_;refine jF ?_;refine aC ?_;simp only[aA,aq,if_true];refine hK _ _ ?_;clear hK aU K K2;refine jA ?_;refine jI ?_;refine jW ⟨?_,rfl⟩;rw[List.take_of_length_le (by omega),List.take_of_length_le (by omega)] at he;rw[decide_eq_true he]
 ·refine jB (ud h0) ?_;refine jE ?_;refine jA ?_;refine jI ?_;refine jW ⟨?_,rfl⟩;rw[decide_eq_false (fun e=>h0 (by rw[e]))];try rfl
theorem An(a b:List Int)(hl:a.length≤2^61)(s:AS):aj prog Γ 123 [aG a .any,aG b .any] s (fun r s'=>r=.v (.bool (decide (a=b)))∧s'=s):=by
 refine aa func123 rfl ntmps123 results123 (by simp) ?_;unfold aG;refine jA ?_;refine wK fun K hK=>?_;by_cases h0:a.length=b.length
 ·refine jB (ru h0) ?_;refine jF ?_;refine ab ?_;refine hK _ _ ?_;clear hK K;refine wK fun K hK=>?_;refine jA ?_;refine ag ?_;refine aD (fun E s1=>∃i:Nat,i≤a.length∧E 5=.v (.int .i64 i)∧E 0=.sl 1 a.length (a.map aJ) .any∧E 1=.sl 1 b.length (b.map aJ) .any∧a.take i=b.take i∧s1=s)
   (fun E _=>match E 5 with |.v (.int _ i)=>a.length-i.toNat|_=>0) ?_ ?_
  ·exact⟨0,Nat.zero_le _,by simp[aB],by simp[aB,bx],by simp[aB,bx],rfl,rfl⟩
  ·rintro E1 s1 ⟨i,hi,h5,PO,h1,he,rfl⟩ -
   refine wK fun K2 aU=>?_;by_cases aY:i<a.length
   ·have DD:i<b.length:=(by omega);refine jB (Ai @h5 (Ai @PO (Ai @au (decide_eq_true aY)))) ?_;refine jE ?_;refine ab ?_;refine aU _ _ ?_;clear aU K2;refine wK fun K3 bq=>?_;refine ag ?_;have cA:(0:Int)≤(i:Int):=(by omega);have cT:=eB aY;have Zr:=eB DD;by_cases hx:a[i]=b[i]
    ·refine bj T.mixed [] (by kernel_rfl) ?_;intro K hK;refine jV (Ai @h5 (Ai @PO (Ai @h1 (Ai @cA (Ai @au (Ai @aY (Ai @DD (Ai @cT (Ai @Zr (gK hx)))))))))) hK ?_;clear hK K;refine jF ?_;refine ab ?_;simp only[aq,aA,if_true,if_false];refine bq _ _ ?_;clear bq K3;refine jD (Ai @h5 (eG i (by omega))) ?_;refine⟨⟨i+1,by omega,rfl,PO,h1,tw aY DD he hx,rfl⟩,?_⟩;simp only[h5,aB,↓reduceIte];omega
    ·refine bj T.mixed [] (by kernel_rfl) ?_;intro K hK;refine jV (Ai @h5 (Ai @PO (Ai @h1 (Ai @cA (Ai @au (Ai @aY (Ai @DD (Ai @cT (Ai @Zr (gb hx)))))))))) hK ?_;clear hK K;refine jE ?_;refine jA ?_;refine a7 ?_;simp only[aA,aq];simp only[ck,bz,bF,dm,List.toList_toArray,↓bg];try simp only[UP,DF,Nc,↓reduceIte,DT]
     refine jW ⟨?_,rfl⟩;rw[decide_eq_false];intro e;subst e;exact hx rfl
   ·refine jB (Ai @h5 (Ai @PO (Ai @au (decide_eq_false aY)))) ?_;refine jF ?_;refine aC ?_;simp only[aA,aq,if_true];refine hK _ _ ?_;clear hK aU K K2;refine jA ?_;refine jI ?_;refine jW ⟨?_,rfl⟩;rw[List.take_of_length_le (by omega),List.take_of_length_le (by omega)] at he;rw[decide_eq_true he]
 ·refine jB (ud h0) ?_;refine jE ?_;refine jA ?_;refine jI ?_;refine jW ⟨?_,rfl⟩;rw[decide_eq_false (fun e=>h0 (by rw[e]))];try rfl
theorem yO(N M:ah)(hl:N.iA.length≤2^61)(s:AS):aj prog Γ 195 [.agg N.cells,.agg M.cells] s (fun r s'=>r=.v (.bool (decide (N=M)))∧s'=s):=by
 refine aa func195 rfl ntmps195 results195 (by simp) ?_;unfold ah.cells;obtain⟨k,m,y,p,u⟩:=N;obtain⟨k',m',y',p',u'⟩:=M;rw[tB];refine jS @aG.eq_1 fun K hK=>?_;intro o ho;intro o' sI;have cY:o≠o':=by
  intro e;subst e;simp[AS.set] at sI
 have hle:s.le ((s.set o [.v (.int .i64 k),al m .any,.v (.int .u64 y),al p .any,aG u .any]).set o' [.v (.int .i64 k'),al m' .any,.v (.int .u64 y'),al p' .any,aG u' .any]):=AS.aF (AS.aF (AS.le.refl s) ho _) (by simpa[AS.set,aB,cY.symm] using sI) _;refine hK _ _ ?_;clear hK K;rcases ff5 (k==k') ((y:Int)==(y':Int)) (decide (m=m')) (decide (p=p')) (decide (u=u')) with hd|hd|hd|hd|hd|hd
 ·refine jB (Ai @cY (Ai @hd @aG.eq_1)) ?_;refine jI ?_;refine⟨_,s,AV.aE.refl _,hle,?_,rfl⟩;simp only[hd,Bool.and_true,Bool.true_and,Bool.false_and,Bool.and_false];try rfl
 ·refine jB (Ai @cY (Ai @hd @aG.eq_1)) ?_;refine jI ?_;refine⟨_,s,AV.aE.refl _,hle,?_,rfl⟩;simp only[hd,Bool.and_true,Bool.true_and,Bool.false_and,Bool.and_false];try rfl
 ·refine jS (Ai @cY (Ai @hd @aG.eq_1)) fun K hK=>?_;refine ad (dc m m' _) ?_;rintro r s' ⟨rfl,rfl⟩;refine jV (Ai @cY (Ai @hd @aG.eq_1)) hK ?_;clear hK K;refine jI ?_;refine⟨_,s,AV.aE.refl _,hle,?_,rfl⟩;simp only[hd,Bool.and_true,Bool.true_and,Bool.false_and,Bool.and_false];try rfl
 ·refine jS (Ai @cY (Ai @hd @aG.eq_1)) fun K hK=>?_;refine ad (dc m m' _) ?_;rintro r s' ⟨rfl,rfl⟩;refine jN (Ai @cY (Ai @hd @aG.eq_1)) ?_;refine ad (dc p p' _) ?_;rintro r s' ⟨rfl,rfl⟩;refine jV (Ai @cY (Ai @hd @aG.eq_1)) hK ?_;clear hK K;refine jI ?_;refine⟨_,s,AV.aE.refl _,hle,?_,rfl⟩;simp only[hd,Bool.and_true,Bool.true_and,Bool.false_and,Bool.and_false];try rfl
 all_goals
  refine jS (Ai @cY (Ai @hd @aG.eq_1)) fun K hK=>?_;refine ad (dc m m' _) ?_;rintro r s' ⟨rfl,rfl⟩;refine jN (Ai @cY (Ai @hd @aG.eq_1)) ?_;refine ad (dc p p' _) ?_;rintro r s' ⟨rfl,rfl⟩;refine jN (Ai @cY (Ai @hd @aG.eq_1)) ?_;refine ad (ue u u' hl _) ?_;rintro r s' ⟨rfl,rfl⟩;refine jV (Ai @cY (Ai @hd @aG.eq_1)) hK ?_;clear hK K;refine jI ?_;refine⟨_,s,AV.aE.refl _,hle,?_,rfl⟩;simp only[hd,Bool.and_true,Bool.true_and,Bool.false_and,Bool.and_false];try rfl
theorem wO(N M:ah)(hl:N.iA.length≤2^61)(s:AS):aj prog Γ 60 [.agg N.cells,.agg M.cells] s (fun r s'=>r=.v (.bool (decide (N=M)))∧s'=s):=by
 refine aa func60 rfl ntmps60 results60 (by simp) ?_;unfold ah.cells;obtain⟨k,m,y,p,u⟩:=N;obtain⟨k',m',y',p',u'⟩:=M;rw[tB];refine jS @aG.eq_1 fun K hK=>?_;intro o ho;intro o' sI;have cY:o≠o':=by
  intro e;subst e;simp[AS.set] at sI
 have hle:s.le ((s.set o [.v (.int .i64 k),al m .any,.v (.int .u64 y),al p .any,aG u .any]).set o' [.v (.int .i64 k'),al m' .any,.v (.int .u64 y'),al p' .any,aG u' .any]):=AS.aF (AS.aF (AS.le.refl s) ho _) (by simpa[AS.set,aB,cY.symm] using sI) _;refine hK _ _ ?_;clear hK K;rcases ff5 (k==k') ((y:Int)==(y':Int)) (decide (m=m')) (decide (p=p')) (decide (u=u')) with hd|hd|hd|hd|hd|hd;case inr.inr.inr.inr.inl|inr.inr.inr.inr.inr=>
  refine jS (Ai @cY (Ai @hd (Ai @aG.eq_1 @tg))) fun K hK=>?_;refine ad (An u u' hl _) ?_;rintro r s' ⟨rfl,rfl⟩;refine jV (Ai @cY (Ai @hd (Ai @aG.eq_1 @tg))) hK ?_;clear hK K;refine jI ?_;refine⟨_,s,AV.aE.refl _,hle,?_,rfl⟩;simp only[hd,Bool.and_true,Bool.true_and,Bool.false_and,Bool.and_false];try rfl
 all_goals
  refine jB (Ai @cY (Ai @hd (Ai @aG.eq_1 @tg))) ?_;refine jI ?_;refine⟨_,s,AV.aE.refl _,hle,?_,rfl⟩;simp only[hd,Bool.and_true,Bool.true_and,Bool.false_and,Bool.and_false];try rfl
theorem eK{a b:Int}(h:a≠b):(a==b)=false:=by simpa using h
theorem jX{a b:Int}(h:a=b):(a==b)=true:=by simpa using h
theorem C7(l:List Int)(hl:l.length≤2^61)(s:AS):aj prog Γ 197 [aG l .any] s (fun r s'=>r=.v (.bool (decide (jq l)))∧s'=s):=by
 refine aa func197 rfl ntmps197 results197 (by simp) ?_;unfold aG;refine jA ?_;refine wK fun K hK=>?_;refine jA ?_;refine ag ?_;refine aD (fun E s1=>∃i:Nat,i≤l.length∧E 7=.v (.int .i64 i)∧E 6=.v (.int .i64 l.length)∧E 0=.sl 1 l.length (l.map aJ) .any∧E 5=.sl 1 l.length (l.map aJ) .any∧(∀j,j<i→uW l j)∧s1=s)
  (fun E _=>match E 7 with |.v (.int _ i)=>l.length-i.toNat|_=>0) ?_ ?_
 ·exact⟨0,Nat.zero_le _,by simp[aB],by simp[aB],by simp[aB,bx],by simp[aB,bx],by simp,rfl⟩
 ·rintro E1 s1 ⟨i,hi,h7,h6,h0,h5,bS,rfl⟩ -
  by_cases aY:i<l.length
  ·refine jB (Ai @h7 (Ai @h6 (Ai @au (decide_eq_true aY)))) ?_;refine wK fun K2 aU=>?_;refine jE ?_;refine ab ?_;refine aU _ _ ?_;clear aU K2;refine wK fun K3 bq=>?_;refine ag ?_;have cA:(0:Int)≤(i:Int):=(by omega);have cT:=eB aY;have iZ:(uW l i)→∀E2:Env,E2 7=.v (.int .i64 i)→E2 6=.v (.int .i64 l.length)→E2 0=.sl 1 l.length (l.map aJ) .any→E2 5=.sl 1 l.length (l.map aJ) .any→K3 E2 s1:=by
    intro ho E2 g7 g6 g0 g5;refine bq _ _ ?_;clear bq K3;refine jD (Ai @g7 (eG i (by omega))) ?_;refine⟨⟨i+1,by omega,rfl,g6,g0,g5,?_,rfl⟩,?_⟩
    ·intro j hj;by_cases FY:j<i
     ·exact bS j FY
     ·obtain rfl:j=i:=(by omega);exact ho
    ·simp only[h7,aB,↓reduceIte];omega
   clear bq;have fW:¬uW l i→decide (jq l)=false:=fun h=>decide_eq_false fun hr=>h (hr i aY);refine jB (Ai @h7 (Ai @h5 (Ai @cA (Ai @au (Ai @aY @cT))))) ?_;by_cases h1:l[i]<0
   ·refine jB (decide_eq_true h1) ?_;refine jE ?_;refine jA ?_;refine a7 ?_;simp only[aA,aq];simp only[ck,bz,bF,dm,List.toList_toArray,↓bg];try simp only[UP,DF,Nc,↓reduceIte,DT]
    rw[fW (fun h=>by have:=lT aY h;omega)];exact jW ⟨rfl,rfl⟩
   by_cases h2:32≤l[i]
   ·refine jB (Ai (decide_eq_false h1) (decide_eq_true h2)) ?_;refine jE ?_;refine jA ?_;refine a7 ?_;simp only[aA,aq];simp only[ck,bz,bF,dm,List.toList_toArray,↓bg];try simp only[UP,DF,Nc,↓reduceIte,DT]
    rw[fW (fun h=>by have:=lT aY h;omega)];exact jW ⟨rfl,rfl⟩
   by_cases h3:(0:Int)<(i:Int)
   ·have hj:i-1<l.length:=(by omega);have p6:dr .i64 (i:Int) 1=((i-1:Nat):Int):=(by rw[bO (by omega)];omega);have Mp:=eB hj;have pb:(0:Int)≤((i-1:Nat):Int):=(by omega);by_cases h4:l[i]≤l[i-1]
    ·refine jB (Ai (decide_eq_false h1) (Ai (decide_eq_false h2) (Ai (decide_eq_true h3) (Ai @h0 (Ai @p6 (Ai @pb (Ai @au (Ai @hj (Ai @Mp (decide_eq_true h4)))))))))) ?_;refine jE ?_;refine jA ?_;refine a7 ?_;simp only[aA,aq];simp only[ck,bz,bF,dm,List.toList_toArray,↓bg];try simp only[UP,DF,Nc,↓reduceIte,DT]
     rw[fW (fun h=>by have:=(lT aY h).2.2 (by omega);omega)];exact jW ⟨rfl,rfl⟩
    ·refine jB (Ai (decide_eq_false h1) (Ai (decide_eq_false h2) (Ai (decide_eq_true h3) (Ai @h0 (Ai @p6 (Ai @pb (Ai @au (Ai @hj (Ai @Mp (decide_eq_false h4)))))))))) ?_;refine jF ?_;refine ab ?_;simp only[aq,aA,if_true,if_false];exact iZ (tC aY (by omega) (by omega) (fun _=>by omega)) _ h7 h6 h0 h5
   ·refine jB (Ai (decide_eq_false h1) (Ai (decide_eq_false h2) (decide_eq_false h3))) ?_;refine jF ?_;refine ab ?_;simp only[aq,aA,if_true,if_false];exact iZ (tC aY (by omega) (by omega) (fun q=>by omega)) _ h7 h6 h0 h5
  ·refine jB (Ai @h7 (Ai @h6 (Ai @au (decide_eq_false aY)))) ?_;refine wK fun K2 aU=>?_;refine jF ?_;refine aC ?_;simp only[aA,aq,if_true];refine hK _ _ ?_;clear hK aU K K2;refine jA ?_;refine jI ?_;refine jW ⟨?_,rfl⟩;rw[decide_eq_true (show jq l from fun j hj=>bS j (by omega))]
theorem sj(N:ah)(s:AS):aj prog Γ 196 [.agg N.cells] s (fun r s'=>r=.v (.bool (decide N.held))∧s'=s):=by
 refine aa func196 rfl ntmps196 results196 (by simp) ?_;unfold ah.cells;obtain⟨k,m,y,p,u⟩:=N;refine aX 1 (by simp[cC]) ?_;intro K hK;refine jN @aG.eq_1 ?_;intro o ho;refine hK _ _ o _ rfl ho ?_;clear hK K ho;have hr:∀b,(ah.held ⟨k,m,y,p,u⟩↔b=true)→decide (ah.held ⟨k,m,y,p,u⟩)=b:=by
  intro b h;cases b
  ·exact decide_eq_false (fun h2=>by have:=h.1 h2;cases this)
  ·exact decide_eq_true (h.2 rfl)
 by_cases h1:2≤(y:Int)∧(y:Int)≤2305843009213693949
 ·have hd:(decide (2≤(y:Int))&&decide ((y:Int)≤2305843009213693949))=true:=(by simp;omega);by_cases h2:p.length=0
  ·refine jQ fun K hK=>?_;refine ad (cn y s) ?_;rintro r s' ⟨rfl,rfl⟩;rw[hd];refine jV (Ai @h2 (show(((0:Nat):Int)==0)=true from rfl)) hK ?_;clear hK K;refine jI ?_;rw[hr true ⟨fun _=>rfl,fun _=>⟨by simp only;omega,by simp only;omega,.inl h2⟩⟩];exact jW ⟨rfl,rfl⟩
  ·by_cases h3:p.length=32
   ·refine jQ fun K hK=>?_;refine ad (cn y s) ?_;rintro r s' ⟨rfl,rfl⟩;rw[hd];refine jV (Ai @h3 (Ai (show(((32:Nat):Int)==0)=false from rfl) (show(((32:Nat):Int)==32)=true from rfl))) hK ?_;clear hK K;refine jI ?_;rw[hr true ⟨fun _=>rfl,fun _=>⟨by simp only;omega,by simp only;omega,.inr h3⟩⟩];exact jW ⟨rfl,rfl⟩
   ·refine jQ fun K hK=>?_;refine ad (cn y s) ?_;rintro r s' ⟨rfl,rfl⟩;rw[hd];refine jV (Ai (eK (show(p.length:Int)≠0 by omega)) (eK (show(p.length:Int)≠32 by omega))) hK ?_;clear hK K;refine jI ?_;rw[hr false ⟨fun h=>by have:=h.2.2;simp only at this;omega,fun h=>by cases h⟩];exact jW ⟨rfl,rfl⟩
 ·have hd:(decide (2≤(y:Int))&&decide ((y:Int)≤2305843009213693949))=false:=(by simp;omega);refine jQ fun K hK=>?_;refine ad (cn y s) ?_;rintro r s' ⟨rfl,rfl⟩;rw[hd];refine jR hK ?_;clear hK K;refine jI ?_;rw[hr false ⟨fun h=>by have:=h.1;have:=h.2.1;simp only at *;omega,fun h=>by cases h⟩];exact jW ⟨rfl,rfl⟩
theorem uf:(AV.agg [.v (.int .i64 0),.v (.slice none 0 0),.v (.int .u64 0),.v (.slice none 0 0),.v (.slice none 0 0)]).aE (.agg ah.gT.cells):=
 AV.pE (.cons (AV.aE.refl _) (.cons AV.aM (.cons (AV.aE.refl _) (.cons AV.aM (.cons AV.aM .nil)))))
theorem kO(N:ah)(hl:N.iA.length≤2^61)(s:AS):aj prog Γ 161 [.agg N.cells] s (fun r s'=>r=.v (.bool (decide N.right))∧s'=s):=by
 refine aa func161 rfl ntmps161 results161 (by simp) ?_;unfold ah.cells;obtain⟨k,m,y,p,u⟩:=N;refine aX 1 (by simp[cC]) ?_;intro K hK;refine jN @aG.eq_1 ?_;intro o ho;refine hK _ _ o _ rfl ho ?_;clear hK K ho;have ie:∀b,(ah.right ⟨k,m,y,p,u⟩↔b=true)→decide (ah.right ⟨k,m,y,p,u⟩)=b:=by
  intro b h;cases b
  ·exact decide_eq_false (fun h2=>by have:=h.1 h2;cases this)
  ·exact decide_eq_true (h.2 rfl)
 refine wK fun K hK=>?_;refine jA ?_;refine ag ?_;by_cases h0:k=0
 ·refine jB (jX h0) ?_;refine jE ?_;refine jS @aG.eq_1 fun K hK=>?_;refine ad (aj.gF (.cons (AV.aE.refl _) (.cons uf .nil)) (yO ⟨k,m,y,p,u⟩ ah.gT hl s)) ?_;rintro r s' ⟨rfl,rfl⟩;refine jR hK ?_;clear hK K;refine a7 ?_;simp only[aA,aq];simp only[ck,bz,bF,dm,List.toList_toArray,↓bg];try simp only[UP,DF,Nc,↓reduceIte,DT]
  refine jW ⟨?_,rfl⟩;rw[ie _ ((jr (N:=⟨k,m,y,p,u⟩) h0).trans decide_eq_true_iff.symm)]
 by_cases h1:k=1
 ·have p8:=fg (N:=⟨k,m,y,p,u⟩) h1;simp only at p8;rcases ff4 (decide (1≤(m.length:Int))) (decide ((m.length:Int)≤16)) (decide (ah.held ⟨k,m,y,p,u⟩)) ((u.length:Int)==0) with hd|hd|hd|hd|hd;case inl|inr.inl=>
   refine jB (eK h0) ?_;refine jF ?_;refine jB (jX h1) ?_;refine jE ?_;refine jB (Ai @hd @aG.eq_1) ?_;refine a7 ?_;simp only[aA,aq];simp only[ck,bz,bF,dm,List.toList_toArray,↓bg];try simp only[UP,DF,Nc,↓reduceIte,DT]
   refine jW ⟨?_,rfl⟩;simp only[decide_eq_true_eq,decide_eq_false_iff_not,beq_iff_eq] at hd;rw[ie false ⟨fun h=>by have:=p8.1 h;omega,fun h=>by cases h⟩]
  all_goals
   refine jB (eK h0) ?_;refine jF ?_;refine jB (jX h1) ?_;refine jE ?_;refine jS (Ai @hd @aG.eq_1) fun K hK=>?_;refine ad (sj ⟨k,m,y,p,u⟩ s) ?_;rintro r s' ⟨rfl,rfl⟩;refine jV (Ai @hd @aG.eq_1) hK ?_;clear hK K;refine a7 ?_;simp only[aA,aq];simp only[ck,bz,bF,dm,List.toList_toArray,↓bg];try simp only[UP,DF,Nc,↓reduceIte,DT]
   refine jW ⟨?_,rfl⟩;simp only[decide_eq_true_eq,decide_eq_false_iff_not,beq_iff_eq,beq_eq_false_iff_ne] at hd
  ·rw[ie false ⟨fun h=>absurd (p8.1 h).2.2.1 hd.2.2,fun h=>by cases h⟩]
  ·rw[ie false ⟨fun h=>by have:=(p8.1 h).2.2.2;omega,fun h=>by cases h⟩]
  ·rw[ie true ⟨fun _=>rfl,fun _=>p8.2 ⟨by omega,by omega,hd.2.2.1,by omega⟩⟩]
 by_cases h2:k=2
 ·have p8:=fT (N:=⟨k,m,y,p,u⟩) h2;simp only at p8 hl;rcases ff3 ((m.length:Int)==0) (decide (ah.held ⟨k,m,y,p,u⟩)) (decide (jq u)) with hd|hd|hd|hd;all_goals
   refine jB (eK h0) ?_;refine jF ?_;refine jB (eK h1) ?_;refine jF ?_;refine jB (jX h2) ?_;refine jE ?_
  ·refine jB (Ai @hd @aG.eq_1) ?_;refine a7 ?_;simp only[aA,aq];simp only[ck,bz,bF,dm,List.toList_toArray,↓bg];try simp only[UP,DF,Nc,↓reduceIte,DT]
   refine jW ⟨?_,rfl⟩;simp only[beq_eq_false_iff_ne] at hd;rw[ie false ⟨fun h=>by have:=(p8.1 h).1;omega,fun h=>by cases h⟩]
  ·refine jS (Ai @hd @aG.eq_1) fun K hK=>?_;refine ad (sj ⟨k,m,y,p,u⟩ s) ?_;rintro r s' ⟨rfl,rfl⟩;refine jV (Ai @hd @aG.eq_1) hK ?_;clear hK K;refine a7 ?_;simp only[aA,aq];simp only[ck,bz,bF,dm,List.toList_toArray,↓bg];try simp only[UP,DF,Nc,↓reduceIte,DT]
   refine jW ⟨?_,rfl⟩;simp only[decide_eq_false_iff_not] at hd;rw[ie false ⟨fun h=>absurd (p8.1 h).2.1 hd.2,fun h=>by cases h⟩]
  all_goals
   refine jS (Ai @hd @aG.eq_1) fun K hK=>?_;refine ad (sj ⟨k,m,y,p,u⟩ s) ?_;rintro r s' ⟨rfl,rfl⟩;refine jN (Ai @hd @aG.eq_1) ?_;refine ad (C7 u hl _) ?_;rintro r s' ⟨rfl,rfl⟩;refine jV (Ai @hd @aG.eq_1) hK ?_;clear hK K;refine a7 ?_;simp only[aA,aq];simp only[ck,bz,bF,dm,List.toList_toArray,↓bg];try simp only[UP,DF,Nc,↓reduceIte,DT]
   refine jW ⟨?_,rfl⟩;simp only[decide_eq_true_eq,decide_eq_false_iff_not,beq_iff_eq] at hd
  ·rw[ie false ⟨fun h=>absurd (p8.1 h).2.2 hd.2.2,fun h=>by cases h⟩]
  ·rw[ie true ⟨fun _=>rfl,fun _=>p8.2 ⟨by omega,hd.2.1,hd.2.2⟩⟩]
 ·refine jB (eK h0) ?_;refine jF ?_;refine jB (eK h1) ?_;refine jF ?_;refine jB (eK h2) ?_;refine jF ?_;refine ab ?_;simp only[aq,aA,if_true,if_false];refine hK _ _ ?_;clear hK K;refine jA ?_;refine jI ?_;refine jW ⟨?_,rfl⟩;rw[ie false ⟨fun h=>absurd h (yl (N:=⟨k,m,y,p,u⟩) h0 h1 h2),fun h=>by cases h⟩]
theorem Hi{N:ah}(h0:N.kind≠0)(h:N.right):N.held:=by
 unfold ah.right at h;rw[if_neg h0] at h;split at h
 ·exact h.2.2.1
 ·split at h
  ·exact h.2.1
  ·exact h.elim
theorem vk(N:ah)(hl:N.iA.length≤2^61)(s:AS):aj prog Γ 63 [.agg N.cells] s (fun r s'=>r=.v (.bool (decide N.right))∧s'=s):=by
 refine aa func63 rfl ntmps63 results63 (by simp) ?_;unfold ah.cells;obtain⟨k,m,y,p,u⟩:=N;simp only at hl;refine aX 1 (by simp[cC]) ?_;intro K hK;refine jN @aG.eq_1 ?_;intro o ho;refine hK _ _ o _ rfl ho ?_;clear hK K ho;have ie:∀b,(ah.right ⟨k,m,y,p,u⟩↔b=true)→decide (ah.right ⟨k,m,y,p,u⟩)=b:=by
  intro b h;cases b
  ·exact decide_eq_false (fun h2=>by have:=h.1 h2;cases this)
  ·exact decide_eq_true (h.2 rfl)
 refine wK fun K hK=>?_;by_cases h0:k=0
 ·refine jB (jX h0) ?_;refine jE ?_;refine jS @aG.eq_1 fun K hK=>?_;refine ad (aj.gF (.cons (AV.aE.refl _) (.cons uf .nil)) (wO ⟨k,m,y,p,u⟩ ah.gT hl s)) ?_;rintro r s' ⟨rfl,rfl⟩;refine jR hK ?_;clear hK K;refine jI ?_;refine jW ⟨?_,rfl⟩;rw[ie _ ((jr (N:=⟨k,m,y,p,u⟩) h0).trans decide_eq_true_iff.symm)];try rfl
 ·refine jB (eK h0) ?_;refine jF ?_;refine ab ?_;refine hK _ _ ?_;clear hK K;refine wK fun K0 Mq=>?_;refine jQ fun K hK=>?_;refine ad (vj y s) ?_;rintro r s' ⟨rfl,rfl⟩;by_cases hh:ah.held ⟨k,m,y,p,u⟩
  ·have hh':=hh;obtain⟨e1,e2,e3⟩:=hh';simp only at e1 e2 e3;rw[show(decide (2≤(y:Int))&&decide ((y:Int)≤2305843009213693949))=true from by simp;omega];have qG:∀E2:Env,E2 1=.cN [.v (.int .i64 k),.sl 1 m.length (m.map ae) .any,.v (.int .u64 y),.sl 1 p.length (p.map ae) .any,.sl 1 u.length (u.map aJ) .any]→K0 E2 s':=by
    intro E2 g1;refine Mq _ _ ?_;clear Mq K0 hK K;refine wK fun K hK=>?_;by_cases h1:k=1
    ·have p8:=fg (N:=⟨k,m,y,p,u⟩) h1;simp only at p8;refine jB (Ai @g1 (jX h1)) ?_;refine jE ?_;rcases ff3 (decide (1≤(m.length:Int))) (decide ((m.length:Int)≤16)) ((u.length:Int)==0) with hd|hd|hd|hd;all_goals
      refine jB (Ai @g1 @hd) ?_;refine jI ?_;refine jW ⟨?_,rfl⟩;simp only[decide_eq_true_eq,decide_eq_false_iff_not,beq_iff_eq,beq_eq_false_iff_ne] at hd
     ·rw[ie false ⟨fun h=>by have:=p8.1 h;omega,fun h=>by cases h⟩];try rfl
     ·rw[ie false ⟨fun h=>by have:=p8.1 h;omega,fun h=>by cases h⟩];try rfl
     ·rw[ie false ⟨fun h=>by have:=(p8.1 h).2.2.2;omega,fun h=>by cases h⟩];try rfl
     ·rw[ie true ⟨fun _=>rfl,fun _=>p8.2 ⟨by omega,by omega,hh,by omega⟩⟩];try rfl
    ·refine jB (Ai @g1 (eK h1)) ?_;refine jF ?_;refine ab ?_;refine hK _ _ ?_;clear hK K;refine wK fun K hK=>?_;by_cases h2:k=2
     ·have p8:=fT (N:=⟨k,m,y,p,u⟩) h2;simp only at p8;by_cases hm:(0:Int)<(m.length:Int)
      ·refine jB (Ai @g1 (Ai (gK h2) (decide_eq_true hm))) ?_;refine jE ?_;refine jA ?_;refine jI ?_;refine jW ⟨?_,rfl⟩;rw[ie false ⟨fun h=>by have:=(p8.1 h).1;omega,fun h=>by cases h⟩];try rfl
      ·refine jB (Ai @g1 (Ai (gK h2) (decide_eq_false hm))) ?_;refine jF ?_;refine ab ?_;refine hK _ _ ?_;clear hK K;refine wK fun K hK=>?_;refine jB @g1 ?_;refine ag ?_;refine aD (fun E s1=>∃i:Nat,i≤u.length∧E 3=.v (.int .i64 i)∧E 1=.cN [.v (.int .i64 k),.sl 1 m.length (m.map ae) .any,.v (.int .u64 y),.sl 1 p.length (p.map ae) .any,.sl 1 u.length (u.map aJ) .any]∧(∀j,j<i→uW u j)∧s1=s')
        (fun E _=>match E 3 with |.v (.int _ i)=>u.length-i.toNat|_=>0) ?_ ?_
       ·exact⟨0,Nat.zero_le _,rfl,g1,by simp,rfl⟩
       ·rintro E3 s1 ⟨i,hi,h3,PQ,bS,rfl⟩ -
        refine wK fun K2 aU=>?_;by_cases aY:i<u.length
        ·refine jB (Ai @h3 (Ai @PQ (Ai @au (decide_eq_true aY)))) ?_;refine jE ?_;refine ab ?_;refine aU _ _ ?_;clear aU K2;refine wK fun K3 bq=>?_;refine ag ?_;have cA:(0:Int)≤(i:Int):=(by omega);have cT:=eB aY;have iZ:(uW u i)→∀E4:Env,E4 3=.v (.int .i64 i)→E4 1=.cN [.v (.int .i64 k),.sl 1 m.length (m.map ae) .any,.v (.int .u64 y),.sl 1 p.length (p.map ae) .any,.sl 1 u.length (u.map aJ) .any]→K3 E4 s1:=by
          intro ho E4 g3 g41;refine bq _ _ ?_;clear bq K3;refine jD (Ai @g3 (eG i (by omega))) ?_;refine⟨⟨i+1,by omega,rfl,g41,?_,rfl⟩,?_⟩
          ·intro j hj;by_cases FY:j<i
           ·exact bS j FY
           ·obtain rfl:j=i:=(by omega);exact ho
          ·simp only[h3,aB,↓reduceIte];omega
         clear bq;have fW:¬uW u i→decide (ah.right ⟨k,m,y,p,u⟩)=false:=fun h=>ie false ⟨fun hr=>absurd ((p8.1 hr).2.2 i aY) h,fun h=>by cases h⟩;by_cases q1:u[i]<0
         ·refine bj T.mixed [] (by kernel_rfl) ?_;intro K hK;refine jV (Ai @h3 (Ai @PQ (Ai @cA (Ai @au (Ai @aY (Ai @cT (decide_eq_true q1))))))) hK ?_;clear hK K;refine jE ?_;refine jA ?_;refine a7 ?_;simp only[aA,aq];simp only[ck,bz,bF,dm,List.toList_toArray,↓bg];try simp only[UP,DF,Nc,↓reduceIte,DT]
          rw[fW (fun h=>by have:=lT aY h;omega)];exact jW ⟨rfl,rfl⟩
         by_cases q2:31<u[i]
         ·refine bj T.mixed [] (by kernel_rfl) ?_;intro K hK;refine jV (Ai @h3 (Ai @PQ (Ai @cA (Ai @au (Ai @aY (Ai @cT (Ai (decide_eq_false q1) (decide_eq_true q2)))))))) hK ?_;clear hK K;refine jE ?_;refine jA ?_;refine a7 ?_;simp only[aA,aq];simp only[ck,bz,bF,dm,List.toList_toArray,↓bg];try simp only[UP,DF,Nc,↓reduceIte,DT]
          rw[fW (fun h=>by have:=lT aY h;omega)];exact jW ⟨rfl,rfl⟩
         by_cases q3:(0:Int)<(i:Int)
         ·have hj:i-1<u.length:=(by omega);have p6:dr .i64 (i:Int) 1=((i-1:Nat):Int):=(by rw[bO (by omega)];omega);have Mp:=eB hj;have pb:(0:Int)≤((i-1:Nat):Int):=(by omega);by_cases q4:u[i]≤u[i-1]
          ·refine bj T.mixed [] (by kernel_rfl) ?_;intro K hK;refine jV (Ai @h3 (Ai @PQ (Ai @cA (Ai @au (Ai @aY (Ai @cT (Ai (decide_eq_false q1) (Ai (decide_eq_false q2) (Ai (decide_eq_true q3) (Ai @p6 (Ai @pb (Ai @hj (Ai @Mp (decide_eq_true q4)))))))))))))) hK ?_;clear hK K;refine jE ?_;refine jA ?_;refine a7 ?_;simp only[aA,aq];simp only[ck,bz,bF,dm,List.toList_toArray,↓bg];try simp only[UP,DF,Nc,↓reduceIte,DT]
           rw[fW (fun h=>by have:=(lT aY h).2.2 (by omega);omega)];exact jW ⟨rfl,rfl⟩
          ·refine bj T.mixed [] (by kernel_rfl) ?_;intro K hK;refine jV (Ai @h3 (Ai @PQ (Ai @cA (Ai @au (Ai @aY (Ai @cT (Ai (decide_eq_false q1) (Ai (decide_eq_false q2) (Ai (decide_eq_true q3) (Ai @p6 (Ai @pb (Ai @hj (Ai @Mp (decide_eq_false q4)))))))))))))) hK ?_;clear hK K;refine jF ?_;refine ab ?_;simp only[aq,aA,if_true,if_false];exact iZ (tC aY (by omega) (by omega) (fun _=>by omega)) _ h3 PQ
         ·refine bj T.mixed [] (by kernel_rfl) ?_;intro K hK;refine jV (Ai @h3 (Ai @PQ (Ai @cA (Ai @au (Ai @aY (Ai @cT (Ai (decide_eq_false q1) (Ai (decide_eq_false q2) (decide_eq_false q3))))))))) hK ?_;clear hK K;refine jF ?_;refine ab ?_;simp only[aq,aA,if_true,if_false];exact iZ (tC aY (by omega) (by omega) (fun q=>by omega)) _ h3 PQ
        ·refine jB (Ai @h3 (Ai @PQ (Ai @au (decide_eq_false aY)))) ?_;refine jF ?_;refine aC ?_;simp only[aA,aq,if_true];refine hK _ _ ?_;clear hK aU K K2;refine jA ?_;refine jI ?_;refine jW ⟨?_,rfl⟩;rw[ie true ⟨fun _=>rfl,fun _=>p8.2 ⟨by omega,hh,fun j hj=>bS j (by omega)⟩⟩];try rfl
     ·refine jB (Ai @g1 (gb h2)) ?_;refine jE ?_;refine jA ?_;refine jI ?_;refine jW ⟨?_,rfl⟩;rw[ie false ⟨fun h=>absurd h (yl (N:=⟨k,m,y,p,u⟩) h0 h1 h2),fun h=>by cases h⟩];try rfl
   clear Mq;rcases e3 with e3|e3
   ·refine jV (Ai @e3 (show(((0:Nat):Int) != 0)=false from rfl)) hK ?_;clear hK K;refine jF ?_;refine ab ?_;exact qG _ (by simp only[aB,Nc,↓reduceIte,e3])
   ·refine jV (Ai @e3 (Ai (show(((32:Nat):Int) != 0)=true from rfl) (show(((32:Nat):Int) != 32)=false from rfl))) hK ?_;clear hK K;refine jF ?_;refine ab ?_;exact qG _ (by simp only[aB,Nc,↓reduceIte,e3])
  ·have Mr:decide (ah.right ⟨k,m,y,p,u⟩)=false:=ie false ⟨fun h=>absurd (Hi (N:=⟨k,m,y,p,u⟩) h0 h) hh,fun h=>by cases h⟩;by_cases e1:2≤(y:Int)∧(y:Int)≤2305843009213693949
   ·have e3:¬(p.length=0∨p.length=32):=fun e=>hh ⟨by simp only;omega,by simp only;omega,e⟩;rw[show(decide (2≤(y:Int))&&decide ((y:Int)≤2305843009213693949))=true from by simp;omega];refine jV (Ai (gb (show(p.length:Int)≠0 by omega)) (gb (show(p.length:Int)≠32 by omega))) hK ?_;clear hK K;refine jE ?_;refine jA ?_;refine jI ?_;rw[Mr];exact jW ⟨rfl,rfl⟩
   ·rw[show(decide (2≤(y:Int))&&decide ((y:Int)≤2305843009213693949))=false from by simp;omega];refine jR hK ?_;clear hK K;refine jE ?_;refine jA ?_;refine jI ?_;rw[Mr];exact jW ⟨rfl,rfl⟩
def dB(N:ah)(st:List UInt8×Bool):List UInt8×Bool:=if N.right then ej N.text st else(st.1,true)
theorem oS(N:ah)(hl:N.iA.length≤2^61)(s0 s:AS)(p:Nat)(st:List UInt8×Bool)(gS:st.1.length+200≤2^45)(h:gj s0 s p st):
  aj prog Γ 236 [.ptr p 0,.agg N.cells] s (fun r s'=>r=.eu []∧gj s0 s' p (dB N st)):=by
 refine aa func236 rfl ntmps236 results236 (by simp) ?_;unfold ah.cells;obtain⟨k,m,y,pa,u⟩:=N;refine aX 3 (by simp[cC]) ?_;intro K hK;refine jN @aG.eq_1 ?_;intro o ho;refine hK _ _ o _ rfl ho ?_;clear hK K ho;refine wK fun K hK=>?_;refine jQ fun K hK=>?_;refine ad (kO ⟨k,m,y,pa,u⟩ hl s) ?_;rintro r s' ⟨rfl,rfl⟩;have hlen:∀a,(ej a st).1.length≤st.1.length+a.length:=fun a=>xY a st;by_cases hr:ah.right ⟨k,m,y,pa,u⟩
 ·rw[decide_eq_true hr];refine jR hK ?_;clear hK K;refine jF ?_;refine ab ?_;refine hK _ _ ?_;clear hK K;have Ms:dB ⟨k,m,y,pa,u⟩ st=ej (ah.text ⟨k,m,y,pa,u⟩) st:=if_pos hr;rw[Ms];rcases js hr with hk|hk|hk
  ·simp only at hk;subst hk;refine jQ fun K hK=>?_;refine ad (fI s0 s' p st ((0:Nat):Int) (by omega) (by omega) h) ?_;rintro r s1 ⟨rfl,q1⟩;rw[fU (by decide)] at q1;refine jR hK ?_;clear hK K;refine wK fun K hK=>?_;refine wS fun K hK=>?_;simp only[↓DN,Qa,Qb,Qc,Qd,Qe,Qf,Qg,Qh,reduceCtorEq,↓reduceIte,Na,Nb,Nc,Nk,Nf,Ng,Nh,Za,Zb,Zc,TT,Int.reduceBEq];refine hK _ _ ?_;clear hK K;refine jE ?_;refine jI ?_;exact jW ⟨rfl,q1⟩
  ·obtain⟨h1,h2,⟨h3,h4,h5⟩,h6⟩:=(fg hk).1 hr;simp only at hk h1 h2 h3 h4 h5 h6;subst hk;refine jQ fun K hK=>?_;refine ad (fI s0 s' p st ((1:Nat):Int) (by omega) (by omega) h) ?_;rintro r s1 ⟨rfl,q1⟩;rw[fU (by decide)] at q1;refine jR hK ?_;clear hK K;refine wK fun K hK=>?_;refine wS fun K hK=>?_;simp only[↓DN,Qa,Qb,Qc,Qd,Qe,Qf,Qg,Qh,reduceCtorEq,↓reduceIte,Na,Nb,Nc,Nk,Nf,Ng,Nh,Za,Zb,Zc,TT,Int.reduceBEq];refine hK _ _ ?_;clear hK K;refine jF ?_;refine ab ?_;refine hK _ _ ?_;clear hK K;refine wK fun K hK=>?_;refine wS fun K hK=>?_;simp only[↓DN,Qa,Qb,Qc,Qd,Qe,Qf,Qg,Qh,reduceCtorEq,↓reduceIte,Na,Nb,Nc,Nk,Nf,Ng,Nh,Za,Zb,Zc,TT,Int.reduceBEq];refine hK _ _ ?_;clear hK K;refine jE ?_;refine jT fun K hK=>?_;refine ad (fJ s0 s1 p _ _ m (zQ.any m) (by have:=hlen (be 1 1);simp at this⊢;omega) q1) ?_;rintro r s2 ⟨rfl,q2⟩;rw[pP (by omega),fB] at q2;refine jR hK ?_;clear hK K;refine hK _ _ ?_;clear hK K;refine jQ fun K hK=>?_;refine ad (lr s0 s2 p _ y (by omega) (by refine Nat.le_trans (Nat.add_le_add_right (hlen _) _) ?_;simp;omega) q2) ?_;rintro r s3 ⟨rfl,q3⟩;rw[rS,fB] at q3;refine jR hK ?_;clear hK K;refine jQ fun K hK=>?_;refine ad (fJ s0 s3 p _ _ pa (zQ.any pa) (by refine Nat.le_trans (Nat.add_le_add_right (Nat.add_le_add_right (hlen _) _) _) ?_;simp;omega) q3) ?_;rintro r s4 ⟨rfl,q4⟩;rw[pP (by omega),fB] at q4;refine jR hK ?_;clear hK K;refine wS fun K hK=>?_;simp only[↓DN,Qa,Qb,Qc,Qd,Qe,Qf,Qg,Qh,reduceCtorEq,↓reduceIte,Na,Nb,Nc,Nk,Nf,Ng,Nh,Za,Zb,Zc,TT,Int.reduceBEq];refine hK _ _ ?_;clear hK K;refine jF ?_;refine ab ?_;simp only[ck,bz,bF,dm,List.toList_toArray,↓bg];try simp only[UP,DF,Nc,↓reduceIte,DT]
   refine jW ⟨rfl,?_⟩;rw[show ah.text ⟨1,m,y,pa,u⟩=be 1 1++(be 1 m.length++m)++be 8 y++(be 1 pa.length++pa) from rfl];exact q4
  ·obtain⟨h1,⟨h3,h4,h5⟩,h6⟩:=(fT hk).1 hr;simp only at hk h1 h3 h4 h5 h6;subst hk;have hu:=rT h6;refine jQ fun K hK=>?_;refine ad (fI s0 s' p st ((2:Nat):Int) (by omega) (by omega) h) ?_;rintro r s1 ⟨rfl,q1⟩;rw[fU (by decide)] at q1;refine jR hK ?_;clear hK K;refine wK fun K hK=>?_;refine wS fun K hK=>?_;simp only[↓DN,Qa,Qb,Qc,Qd,Qe,Qf,Qg,Qh,reduceCtorEq,↓reduceIte,Na,Nb,Nc,Nk,Nf,Ng,Nh,Za,Zb,Zc,TT,Int.reduceBEq];refine hK _ _ ?_;clear hK K;refine jF ?_;refine ab ?_;refine hK _ _ ?_;clear hK K;refine wK fun K hK=>?_;refine wS fun K hK=>?_;simp only[↓DN,Qa,Qb,Qc,Qd,Qe,Qf,Qg,Qh,reduceCtorEq,↓reduceIte,Na,Nb,Nc,Nk,Nf,Ng,Nh,Za,Zb,Zc,TT,Int.reduceBEq];refine hK _ _ ?_;clear hK K;refine jF ?_;refine ab ?_;refine hK _ _ ?_;clear hK K;refine jQ fun K hK=>?_;refine ad (lr s0 s1 p _ y (by omega) (by refine Nat.le_trans (Nat.add_le_add_right (hlen _) _) ?_;simp;omega) q1) ?_;rintro r s3 ⟨rfl,q3⟩;rw[rS,fB] at q3;refine jR hK ?_;clear hK K;refine jQ fun K hK=>?_;refine ad (fJ s0 s3 p _ _ pa (zQ.any pa) (by refine Nat.le_trans (Nat.add_le_add_right (Nat.add_le_add_right (hlen _) _) _) ?_;simp;omega) q3) ?_;rintro r s4 ⟨rfl,q4⟩;rw[pP (by omega),fB] at q4;refine jR hK ?_;clear hK K;refine wS fun K hK=>?_;simp only[↓DN,Qa,Qb,Qc,Qd,Qe,Qf,Qg,Qh,reduceCtorEq,↓reduceIte,Na,Nb,Nc,Nk,Nf,Ng,Nh,Za,Zb,Zc,TT,Int.reduceBEq];refine hK _ _ ?_;clear hK K;refine jE ?_;refine jQ fun K hK=>?_;refine ad (fI s0 s4 p _ (u.length:Int) (by omega) (by refine Nat.le_trans (Nat.add_le_add_right (hlen _) _) ?_;simp;omega) q4) ?_;rintro r s5 ⟨rfl,q5⟩;rw[fU (by omega),fB] at q5;obtain⟨A,hA⟩:∃A,A=be 1 2++be 8 y++(be 1 pa.length++pa)++be 1 u.length:=⟨_,rfl⟩;have hAl:A.length≤50:=(by rw[hA];simp;omega);rw[←hA] at q5;have htx:ah.text ⟨2,m,y,pa,u⟩=A++iC u:=(by rw[hA];rfl);refine jR hK ?_;clear hK K;refine jA ?_;refine ag ?_;refine aD (fun E s2=>∃i:Nat,i≤u.length∧E 44=.v (.int .i64 i)∧E 43=.v (.int .i64 u.length)∧E 42=.sl 1 u.length (u.map aJ) .any∧E 0=.ptr p 0∧gj s0 s2 p (ej (A++iC (u.take i)) st))
    (fun E _=>match E 44 with |.v (.int _ i)=>u.length-i.toNat|_=>0) ?_ ?_
   ·exact⟨0,Nat.zero_le _,rfl,rfl,rfl,by simp only[aB,bx,Nc,↓reduceIte,List.getD_cons_zero],by simpa[iC] using q5⟩
   ·rintro E1 s6 ⟨i,hi,Zs,g43,g42,g0,q6⟩ -
    by_cases aY:i<u.length
    ·refine jB (Ai @Zs (Ai @g43 (Ai @au (decide_eq_true aY)))) ?_;refine wK fun K2 aU=>?_;refine jE ?_;refine ab ?_;refine aU _ _ ?_;clear aU K2;refine wK fun K3 bq=>?_;refine ag ?_;have cA:(0:Int)≤(i:Int):=(by omega);have cT:=eB aY;have hx:=ym h6 (List.getElem_mem aY);refine jB (Ai @Zs (Ai @g42 (Ai @cA (Ai @au (Ai @aY @cT))))) ?_;refine jU @g0 fun K hK=>?_;have hxn:u[i]=((u[i]).toNat:Int):=(by omega);refine ad (fI s0 s6 p _ u[i] (by omega) (by refine Nat.le_trans (Nat.add_le_add_right (hlen _) _) ?_;simp[n6];omega) q6) ?_;rintro r s7 ⟨rfl,q7⟩;rw[hxn,fU (by omega),fB,List.append_assoc,←zY,←List.take_succ_eq_append_getElem aY] at q7;refine jR hK ?_;clear hK K;simp only[aq,aA,if_true,if_false];refine bq _ _ ?_;clear bq K3;refine jD (Ai @Zs (eG i (by omega))) ?_;refine⟨⟨i+1,by omega,rfl,g43,g42,g0,q7⟩,?_⟩;simp only[Zs,aB,↓reduceIte];omega
    ·refine jB (Ai @Zs (Ai @g43 (Ai @au (decide_eq_false aY)))) ?_;refine wK fun K2 aU=>?_;refine jF ?_;refine aC ?_;simp only[aA,aq,if_true];simp only[ck,bz,bF,dm,List.toList_toArray,↓bg];try simp only[UP,DF,Nc,↓reduceIte,DT]
     refine jW ⟨rfl,?_⟩;rw[List.take_of_length_le (by omega)] at q6;rw[htx];exact q6
 ·rw[decide_eq_false hr];refine jR hK ?_;clear hK K;refine jE ?_;refine jQ fun K hK=>?_;refine ad (fI s0 s' p st (-1) (by omega) (by omega) h) ?_;rintro r s1 ⟨rfl,q1⟩;refine jR hK ?_;clear hK K;refine jI ?_;refine jW ⟨rfl,?_⟩;rw[show dB ⟨k,m,y,pa,u⟩ st=bm 1 (-1) st from(if_neg hr).trans (if_neg (by omega)).symm];exact q1
theorem oq(t:List ah)(ht:t.length≤2^61)(s:AS):aj prog Γ 104 [aW t] s (fun r s'=>r=.v (.int .i64 (aI t))∧s'=s):=by
 refine aa func104 rfl ntmps104 results104 (by simp) ?_;have e0:kX .i64 (dQ .i64 (t.length:Int) 1) 2=((((t.length+1)/2:Nat)):Int):=(by rw[bd _ (by omega),dL _ (by omega)]);obtain⟨h,hh⟩:∃h,h=(t.length+1)/2:=⟨_,rfl⟩;rw[←hh] at e0;unfold aW;refine jA ?_;refine jB @e0 ?_;refine wK fun K hK=>?_;refine jQ fun K hK=>?_;refine ad (tE h _) ?_;rintro r s1 ⟨rfl,rfl⟩;by_cases hf:Fit h
 ·have UE:=hf.le;rw[decide_eq_true (np.2 hf)];refine jM ?_;refine ad (rk h _) ?_;rintro r s2 ⟨rfl,rfl⟩;rw[ED hf];by_cases hw:t.length=2*h-1
  ·have hl:aI t=h:=(by unfold aI;rw[←hh];exact if_pos ⟨hf,hw⟩);refine jV (RB hw) hK ?_;clear hK K;refine jF ?_;refine ab ?_;refine hK _ _ ?_;clear hK K;refine jA ?_;refine jI ?_;rw[hl];exact jW ⟨rfl,rfl⟩
  ·have hl:aI t=0:=(by unfold aI;rw[←hh];exact if_neg (fun k=>hw k.2));refine jV (RA hw) hK ?_;clear hK K;refine jE ?_;refine jA ?_;refine jI ?_;rw[hl];exact jW ⟨rfl,rfl⟩
 ·have hl:aI t=0:=(by unfold aI;rw[←hh];exact if_neg (fun k=>hf k.1));rw[decide_eq_false (fun k=>hf (np.1 k))];refine jR hK ?_;clear hK K;refine jE ?_;refine jA ?_;refine jI ?_;rw[hl];exact jW ⟨rfl,rfl⟩
theorem lu(t:List ah)(ht:t.length≤2^61)(i:Int)(s:AS):aj prog Γ 142 [aW t,.v (.int .i64 i)] s (fun r s'=>r=.v (.bool (decide (et t i)))∧s'=s):=by
 refine aa func142 rfl ntmps142 results142 (by simp) ?_;have qL:=fun s=>oq (Γ:=Γ) t ht s;unfold aW at qL⊢;refine jA ?_;by_cases h0:0≤i
 ·refine jS (decide_eq_true h0) fun K hK=>?_;refine ad (qL _) ?_;rintro r s1 ⟨rfl,rfl⟩;by_cases h1:i<(aI t:Int)
  ·obtain⟨n,rfl⟩:=Int.eq_ofNat_of_zero_le h0;have hn:n<aI t:=(by omega);have Zt:=Mg hn;have YD:=CG t;have cT:=dh Zt;have hk:decide (et t (n:Int))=((nd t (2*n)).kind==1):=by
    rw[Bool.eq_iff_iff,decide_eq_true_iff,beq_iff_eq];unfold et;rw[Int.toNat_natCast];exact⟨fun k=>k.2.2,fun k=>⟨h0,h1,k⟩⟩
   generalize nd t (2*n)=N at *
   generalize aK ah.cells t=X at *
   obtain⟨k,nm,y,pa,u⟩:=N;unfold ah.cells at cT;have cA:(0:Int)≤((2*n:Nat):Int):=(by omega);refine jV (Ai (decide_eq_true h1) (Ai (decide_eq_true hn) (Ai (bZ n (by omega)) (Ai @au (Ai @Zt (Ai @cA @cT)))))) hK ?_;clear hK K;refine jI ?_;rw[hk];exact jW ⟨rfl,rfl⟩
  ·have hk:decide (et t i)=false:=decide_eq_false fun k=>h1 k.2.1;refine jV (decide_eq_false h1) hK ?_;clear hK K;refine jI ?_;rw[hk];exact jW ⟨rfl,rfl⟩
 ·have hk:decide (et t i)=false:=decide_eq_false fun k=>h0 k.1;refine jB (decide_eq_false h0) ?_;refine jI ?_;rw[hk];exact jW ⟨rfl,rfl⟩
theorem Ao(t:List ah)(ht:t.length≤2^61)(a k:Nat)(hak:a+k<2^61)(s:AS):aj prog Γ 144 [aW t,.v (.int .i64 a),.v (.int .i64 (((a+k:Nat):Int)-1))] s (fun r s'=>r=.v (.int .i64 (ga (et t) a k))∧s'=s):=by
 refine aa func144 rfl ntmps144 results144 (by simp) ?_;have hm:=fun i s=>lu (Γ:=Γ) t ht i s;unfold aW at hm⊢;generalize aK ah.cells t=X at *
 refine jA ?_;refine jA ?_;refine wK fun K hK=>?_;refine jA ?_;refine ag ?_;refine aD (fun E s2=>∃i:Nat,i≤k∧E 8=.v (.int .i64 ((a+i:Nat):Int))∧E 7=.v (.int .i64 (ga (et t) a i))∧E 0=.sl 5 t.length X .any∧E 2=.v (.int .i64 (((a+k:Nat):Int)-1))∧s2=s)
  (fun E _=>match E 8 with |.v (.int _ i)=>a+k-i.toNat|_=>0) ?_ ?_
 ·exact⟨0,Nat.zero_le _,rfl,rfl,rfl,rfl,rfl⟩
 ·rintro E1 s2 ⟨i,hi,g8,g7,g0,g2,rfl⟩ -
  refine wK fun K2 aU=>?_;by_cases aY:i<k
  ·have h1:decide (((a+i:Nat):Int)≤((a+k:Nat):Int)-1)=true:=decide_eq_true (by omega);refine jB (Ai @g8 (Ai @g2 @h1)) ?_;refine jE ?_;refine ab ?_;refine aU _ _ ?_;clear aU K2;refine wK fun K3 bq=>?_;refine ag ?_;have bX:∀(E:Env),E 8=.v (.int .i64 ((a+i:Nat):Int))→E 7=.v (.int .i64 (ga (et t) a (i+1)))→E 0=.sl 5 t.length X .any→E 2=.v (.int .i64 (((a+k:Nat):Int)-1))→K3 E s2:=by
    intro E f8 f7 f0 f2;refine bq _ _ ?_;clear bq K3;refine jD (Ai @f8 (bd (a+i) (by omega))) ?_;refine⟨⟨i+1,aY,rfl,f7,f0,f2,rfl⟩,?_⟩;simp only[g8,aB,↓reduceIte];omega
   clear bq;refine jS (Ai @g0 @g8) fun K hK=>?_;refine ad (hm _ _) ?_;rintro r s3 ⟨rfl,rfl⟩;have hc:=CV (et t) a i;by_cases hp:et t ((a+i:Nat):Int)
   ·rw[decide_eq_true hp];refine jR hK ?_;clear hK K;refine jE ?_;refine jD (Ai @g7 (bd (ga (et t) a i) (by omega))) ?_;refine bX _ g8 ?_ g0 g2;have :ga (et t) a (i+1)=ga (et t) a i+1:=(by simp only[ga];rw[if_pos hp]);rw[this];simp only[aB,Nc,↓reduceIte]
   ·rw[decide_eq_false hp];refine jR hK ?_;clear hK K;refine jF ?_;refine ab ?_;refine bX _ g8 ?_ g0 g2;have :ga (et t) a (i+1)=ga (et t) a i:=(by simp only[ga];rw[if_neg hp];omega);rw[this];simp only[aB,g7,Nc,↓reduceIte]
  ·have h1:decide (((a+i:Nat):Int)≤((a+k:Nat):Int)-1)=false:=decide_eq_false (by omega);refine jB (Ai @g8 (Ai @g2 @h1)) ?_;refine jF ?_;refine aC ?_;simp only[aA,aq,if_true];refine hK _ _ ?_;clear hK aU K2 K;obtain rfl:i=k:=(by omega);refine jB @g7 ?_;exact jJ
theorem Ap(t:List ah)(ht:t.length≤2^61)(name:List UInt8)(a:Nat)(ha:a≤2^60)(s:AS):aj prog Γ 143 [aW t,al name .any,.v (.int .i64 a)] s (fun r s'=>r=.v (.int .i64 (oo t name a))∧s'=s):=by
 refine aa func143 rfl ntmps143 results143 (by simp) ?_;have hm:=fun i s=>lu (Γ:=Γ) t ht i s;have cT:=fun i(h:i<t.length)=>dh (t:=t) h;obtain⟨Q,hQ⟩:∃Q:Nat→Bool,Q=fun(j:Nat)=>decide (et t (j:Int)∧(nd t (2*j)).name=name):=⟨_,rfl⟩;have dV:oo t name a=cd Q (ev t-a) a:=(by rw[hQ];rfl);unfold aW at hm⊢;generalize aK ah.cells t=X at *
 refine jA ?_;refine wK fun K hK=>?_;refine jA ?_;refine ag ?_;refine aD (fun E s2=>∃i:Nat,i≤2^61∧a≤i∧cd Q (ev t-i) i=cd Q (ev t-a) a∧E 7=.v (.int .i64 i)∧E 0=.sl 5 t.length X .any∧E 1=.sl 1 name.length (name.map ae) .any∧s2=s)
  (fun E _=>match E 7 with |.v (.int _ i)=>ev t-i.toNat|_=>0) ?_ ?_
 ·exact⟨a,by omega,Nat.le_refl _,rfl,rfl,rfl,rfl,rfl⟩
 ·rintro E1 s2 ⟨i,hi,hai,hf,g7,g0,g1,rfl⟩ -
  refine wK fun K2 aU=>?_;by_cases aY:i<ev t
  ·have fO:2*i<t.length:=yI.1 aY;refine jB (Ai @g7 (Ai @g0 (Ai (bZ i (by omega)) (Ai @au (decide_eq_true fO))))) ?_;refine jE ?_;refine ab ?_;refine aU _ _ ?_;clear aU K2;refine wK fun K3 bq=>?_;refine ag ?_;obtain⟨k,hk⟩:∃k,ev t-i=k+1:=⟨ev t-i-1,by omega⟩;have tF:ev t-(i+1)=k:=(by omega);rw[hk] at hf;have zD:Q i=decide (et t i∧(nd t (2*i)).name=name):=(by rw[hQ]);have bX:∀(E:Env),Q i=false→E 7=.v (.int .i64 i)→E 0=.sl 5 t.length X .any→E 1=.sl 1 name.length (name.map ae) .any→K3 E s2:=by
    intro E hq f7 f0 f1;refine bq _ _ ?_;clear bq K3;refine jD (Ai @f7 (bd i (by omega))) ?_;refine⟨⟨i+1,by omega,by omega,by rw[tF,←hf,kt hq],rfl,f0,f1,rfl⟩,?_⟩;simp only[g7,aB,↓reduceIte];omega
   clear bq;have iL:=cT (2*i) fO;generalize nd t (2*i)=N at *
   obtain⟨nk,nm,ny,ll,nu⟩:=N;unfold ah.cells at iL;simp only at zD;have cA:(0:Int)≤((2*i:Nat):Int):=(by omega);refine jS (Ai @g0 @g7) fun K hK=>?_;refine ad (hm _ _) ?_;rintro r s3 ⟨rfl,rfl⟩;by_cases hp:et t (i:Int)
   ·rw[decide_eq_true hp];refine jN (Ai @g0 (Ai @g7 (Ai @g1 (Ai (bZ i (by omega)) (Ai @au (Ai @fO (Ai @cA @iL))))))) ?_;refine ad (dc nm name _) ?_;rintro r s4 ⟨rfl,rfl⟩;by_cases hn:nm=name
    ·rw[decide_eq_true hn];rw[decide_eq_true ⟨hp,hn⟩] at zD;refine jR hK ?_;clear hK K;refine jE ?_;refine jB @g7 ?_;refine jI ?_;rw[dV,←hf,ku zD];exact jW ⟨rfl,rfl⟩
    ·rw[decide_eq_false hn];rw[decide_eq_false (fun q=>hn q.2)] at zD;refine jR hK ?_;clear hK K;refine jF ?_;refine ab ?_;exact bX _ zD g7 g0 g1
   ·rw[decide_eq_false hp];rw[decide_eq_false (fun q=>hp q.1)] at zD;refine jR hK ?_;clear hK K;refine jF ?_;refine ab ?_;exact bX _ zD g7 g0 g1
  ·have fO:¬2*i<t.length:=fun h=>aY (yI.2 h);refine jB (Ai @g7 (Ai @g0 (Ai (bZ i (by omega)) (Ai @au (decide_eq_false fO))))) ?_;refine jF ?_;refine aC ?_;simp only[aA,aq,if_true];refine hK _ _ ?_;clear hK aU K2 K;rw[show ev t-i=0 by omega] at hf;refine jA ?_;refine jI ?_;rw[dV,←hf];exact jW ⟨rfl,rfl⟩
theorem kK(l:List Int)(hl:l.length≤2^61)(k:FuncId)(hk:ai prog k=true)(cg:List AV)(P:Int→Bool)
  (hP:∀x∈l,∀s,aj prog Γ k (.v (.int .i64 x)::cg) s (fun r s'=>r=.v (.bool (P x))∧s'=s)) (s:AS):
  aj prog Γ 71 [aG l .any,.qE k cg] s (fun r s'=>r=.v (.int .i64 (cd (fun i=>P (l.getD i 0)) l.length 0))∧s'=s):=by
 refine aa func71 rfl ntmps71 results71 (by simp) ?_;obtain⟨Q,hQ⟩:∃Q:Nat→Bool,Q=fun i=>P (l.getD i 0):=⟨_,rfl⟩;rw[←hQ];unfold aG;refine jA ?_;refine wK fun K hK=>?_;refine jA ?_;refine ag ?_;refine aD (fun E s2=>∃i:Nat,i≤l.length∧cd Q (l.length-i) i=cd Q l.length 0∧E 8=.v (.int .i64 i)∧E 7=.v (.int .i64 l.length)∧E 0=.sl 1 l.length (l.map aJ) .any∧E 1=.qE k cg∧s2=s)
  (fun E _=>match E 8 with |.v (.int _ i)=>l.length-i.toNat|_=>0) ?_ ?_
 ·exact⟨0,Nat.zero_le _,rfl,rfl,rfl,rfl,rfl,rfl⟩
 ·rintro E1 s2 ⟨i,hi,hf,g8,g7,g0,g1,rfl⟩ -
  by_cases aY:i<l.length
  ·refine jB (Ai @g8 (Ai @g7 (Ai @au (decide_eq_true aY)))) ?_;refine wK fun K2 aU=>?_;refine jE ?_;refine ab ?_;refine aU _ _ ?_;clear aU K2;refine wK fun K3 bq=>?_;refine ag ?_;have zD:Q i=P l[i]:=(by rw[hQ];simp[List.getD,aY]);have hc:=hP l[i] (List.getElem_mem aY) s2;rw[←zD] at hc;obtain⟨k',Dy⟩:∃k',l.length-i=k'+1:=⟨l.length-i-1,by omega⟩;have Dw:l.length-(i+1)=k':=(by omega);rw[Dy] at hf;have cT:=eB aY;have cA:(0:Int)≤(i:Int):=(by omega);refine jB @g8 ?_;refine jS (Ai @g1 (Ai @g0 (Ai @au (Ai @aY (Ai @cA @cT))))) fun K hK=>?_;refine⟨hk,?_⟩;refine ad hc ?_;rintro r s3 ⟨rfl,rfl⟩;cases hq:Q i with
   |true=>
    refine jR hK ?_;clear hK K;refine jE ?_;refine jA ?_;refine jI ?_;rw[←hf,ku hq];exact jW ⟨rfl,rfl⟩
   |false=>
    refine jR hK ?_;clear hK K;refine jF ?_;refine ab ?_;simp only[aq,aA,if_true,if_false];refine bq _ _ ?_;clear bq K3;refine jD (Ai @g8 (bd i (by omega))) ?_;refine⟨⟨i+1,by omega,by rw[Dw,←hf,kt hq],rfl,g7,g0,g1,rfl⟩,?_⟩;simp only[g8,aB,↓reduceIte];omega
  ·refine jB (Ai @g8 (Ai @g7 (Ai @au (decide_eq_false aY)))) ?_;refine wK fun K2 aU=>?_;refine jF ?_;refine aC ?_;simp only[aA,aq,if_true];refine hK _ _ ?_;clear hK aU K2 K;rw[show l.length-i=0 by omega] at hf;refine jA ?_;refine jI ?_;rw[←hf];exact jW ⟨rfl,rfl⟩
theorem sm(l:List Int)(hl:l.length≤2^61)(k:FuncId)(hk:ai prog k=true)(cg:List AV)(P:Int→Bool)
  (hP:∀x∈l,∀s,aj prog Γ k (.v (.int .i64 x)::cg) s (fun r s'=>r=.v (.bool (P x))∧s'=s)) (s:AS):
  aj prog Γ 179 [aG l .any,.qE k cg] s (fun r s'=>r=.v (.bool (l.any P))∧s'=s):=by
 refine aa func179 rfl ntmps179 results179 (by simp) ?_;have hc:=fun s=>kK (Γ:=Γ) l hl k hk cg P hP s;have ha:=yJ P l;generalize cd (fun i=>P (l.getD i 0)) l.length 0=n at *
 refine jA ?_;refine jK (hc _) ?_;rintro s1 rfl;refine jI ?_;rw[←ha];exact jW ⟨rfl,rfl⟩
theorem Fj:ai prog 178=true:=by kernel_rfl
def mb(t:List ah)(a b:Int)(u:Int):Bool:=decide (u<a)||(decide (b<u)|| !decide (et t u))
theorem Aq(t:List ah)(ht:t.length≤2^61)(a b u:Int)(s:AS):aj prog Γ 178 [.v (.int .i64 u),.cN [.v (.int .i64 a)],.cN [.v (.int .i64 b)],.cN [aW t]] s (fun r s'=>r=.v (.bool (mb t a b u))∧s'=s):=by
 refine aa func178 rfl ntmps178 results178 (by simp) ?_;have hm:=fun i s=>lu (Γ:=Γ) t ht i s;unfold aW at hm⊢;generalize aK ah.cells t=X at *
 unfold mb;refine jA ?_;by_cases h1:u<a
 ·have hr:(decide (u<a)||(decide (b<u)|| !decide (et t u)))=true:=(by rw[decide_eq_true h1];rfl);refine jB (decide_eq_true h1) ?_;refine jI ?_;rw[hr];exact jW ⟨rfl,rfl⟩
 ·by_cases h2:b<u
  ·have hr:(decide (u<a)||(decide (b<u)|| !decide (et t u)))=true:=(by rw[decide_eq_true h2,decide_eq_false h1];rfl);refine jB (Ai (decide_eq_false h1) (decide_eq_true h2)) ?_;refine jI ?_;rw[hr];exact jW ⟨rfl,rfl⟩
  ·have hr:(decide (u<a)||(decide (b<u)|| !decide (et t u)))= !decide (et t u):=(by rw[decide_eq_false h2,decide_eq_false h1];rfl);refine jS (Ai (decide_eq_false h1) (decide_eq_false h2)) fun K hK=>?_;refine ad (hm _ _) ?_;rintro r s1 ⟨rfl,rfl⟩;refine jR hK ?_;clear hK K;refine jI ?_;rw[hr];exact jW ⟨rfl,rfl⟩
theorem C8(hG:Γ 3=fi.map oJ)(t:List ah)(ht:eI t)(i:Nat)(hi:i<t.length)(s:AS):aj prog Γ 141 [aW t,.v (.int .i64 i)] s (fun r s'=>r=.v (.bool (decide (p9 t i)))∧s'=s):=by
 refine aa func141 rfl ntmps141 results141 (by simp) ?_;have hun:=fun s=>rj (Γ:=Γ) hG (i:Int) s;obtain⟨a,ha⟩:∃a,a=(iD (i:Int)).1:=⟨_,rfl⟩;obtain⟨b,hb⟩:∃b,b=(iD (i:Int)).2:=⟨_,rfl⟩;rw[←ha,←hb] at hun;have hfo:=fun u s=>Aq (Γ:=Γ) t ht.1 a b u s;have cT:=dh hi;have hN:=ht.nd i;have bT:p9 t i↔(nd t i).right∧((nd t i).kind=0∨((nd t i).kind=1↔i%2=0))∧((nd t i).iA.any (mb t a b))=false:=by
  unfold p9;rw[←ha,←hb];simp only[List.any_eq_false,mb,Bool.or_eq_true,decide_eq_true_eq,Bool.not_eq_true',decide_eq_false_iff_not,not_or,Int.not_lt,Decidable.not_not]
 have Mr:=fun s=>kO (Γ:=Γ) (nd t i) hN.1 s;have UZ:=fun s=>sm (Γ:=Γ) (nd t i).iA hN.1 _ Fj [.cN [.v (.int .i64 a)],.cN [.v (.int .i64 b)],.cN [aW t]] (mb t a b) (fun x _ s=>hfo x s) s;have Hj:decide (p9 t i)=(decide (nd t i).right&&(((nd t i).kind==0||(((nd t i).kind==1)==(i%2==0)))&& !((nd t i).iA.any (mb t a b)))):=by
  rw[Bool.eq_iff_iff,decide_eq_true_iff,bT];simp only[Bool.and_eq_true,decide_eq_true_eq,Bool.or_eq_true,beq_iff_eq,Bool.not_eq_true',Bool.beq_eq_decide_eq];constructor
  ·rintro⟨x,y,z⟩;exact⟨x,y.imp id (fun q=>by rw[Bool.eq_iff_iff,decide_eq_true_iff,decide_eq_true_iff];exact q),z⟩
  ·rintro⟨x,y,z⟩;exact⟨x,y.imp id (fun q=>by rw[Bool.eq_iff_iff,decide_eq_true_iff,decide_eq_true_iff] at q;exact q),z⟩
 clear bT;generalize List.any (nd t i).iA (mb t a b)=F at *
 unfold aW at UZ⊢;generalize aK ah.cells t=X at *
 clear hfo;generalize decide (p9 t i)=PR at *
 generalize decide (nd t i).right=RT at *
 generalize nd t i=N at *
 obtain⟨nk,nm,ny,ll,nu⟩:=N;unfold ah.cells at cT Mr;simp only at Hj UZ;unfold aG at UZ cT Mr;have cA:(0:Int)≤(i:Int):=(by omega);have aY:i<t.length:=hi;refine aX 2 (by decide) ?_;intro K hK;refine jM ?_;intro o1 h1;refine hK _ _ o1 _ rfl h1 ?_;clear hK K h1;refine aX 5 (by decide) ?_;intro K hK;refine jN (Ai @au (Ai @aY (Ai @cA @cT))) ?_;intro o1 h1;refine hK _ _ o1 _ rfl h1 ?_;clear hK K h1;refine iw 6 7 (by decide) (by decide) (by decide) ?_;intro K hK;refine jM ?_;refine ad (hun _) ?_;rintro r s1 ⟨rfl,rfl⟩;refine jM ?_;intro o1 xA o2 qQ;have cY:o1≠o2:=(by rintro rfl;simp at qQ);have D3:=cY.symm;simp only[cY,D3,if_true,if_false,↓reduceIte,List.set_cons_zero,List.set_cons_succ,List.length_cons,List.length_nil,Nat.reduceAdd,Nat.le_refl,true_and];rw[Ld cY];refine hK _ _ o1 o2 _ _ rfl rfl xA (by rw[AS.ao _ D3];simpa[D3] using qQ) ?_;clear hK K xA qQ cY D3;refine jA ?_;have mR:iW (i:Int) 2=((i%2:Nat):Int):=lP i 2;have bb:((true==true)=true∧(false==false)=true)∧((true==false)=false∧(false==true)=false):=⟨⟨rfl,rfl⟩,rfl,rfl⟩;cases RT with
 |false=>
  refine jK (Mr _) ?_;rintro s2 rfl;refine jI ?_;rw[Hj];exact jW ⟨rfl,rfl⟩
 |true=>
  by_cases k0:nk=0
  ·have t0:=lU k0;refine jQ fun K hK=>?_;refine ad (Mr _) ?_;rintro r s2 ⟨rfl,rfl⟩;simp only[↓DM,bE,DX,Nz,↓DN,Qa,Qb,Qc,Qd,Qe,Qf,Qg,Qh,reduceCtorEq,↓reduceIte,Na,Nb,Nc,Nk,Nf,Ng,Nh,Za,Zb,Zc,TT,t0];refine ad (UZ _) ?_;rintro r s3 ⟨rfl,rfl⟩;refine jR hK ?_;clear hK K;refine jI ?_;have Oa:(true&&((nk==0||((nk==1)==(i%2==0)))&& !F))= !F:=(by rw[t0];cases F<;>rfl);rw[Hj,Oa];exact jW ⟨rfl,rfl⟩
  ·have t0:=ko k0;by_cases k1:nk=1
   ·have t1:=lU k1;by_cases kp:i%2=0
    ·have t2:(iW (i:Int) 2==0)=true:=(by rw[mR];exact lU (by omega));have t3:(i%2==0)=true:=(by simpa using kp);have Oa:(true&&((nk==0||((nk==1)==(i%2==0)))&& !F))= !F:=(by rw[t0,t1,t3];cases F<;>rfl);refine jQ fun K hK=>?_;refine ad (Mr _) ?_;rintro r s2 ⟨rfl,rfl⟩;simp only[↓DM,bE,DX,Nz,↓DN,Qa,Qb,Qc,Qd,Qe,Qf,Qg,Qh,reduceCtorEq,↓reduceIte,Na,Nb,Nc,Nk,Nf,Ng,Nh,Za,Zb,Zc,TT,t0,t1,lV,t2,bb];refine ad (UZ _) ?_;rintro r s3 ⟨rfl,rfl⟩;refine jR hK ?_;clear hK K;refine jI ?_;rw[Hj,Oa];exact jW ⟨rfl,rfl⟩
    ·have t2:(iW (i:Int) 2==0)=false:=(by rw[mR];exact ko (by omega));have t3:(i%2==0)=false:=(by simpa using kp);have Oa:(true&&((nk==0||((nk==1)==(i%2==0)))&& !F))=false:=(by rw[t0,t1,t3];cases F<;>rfl);refine jQ fun K hK=>?_;refine ad (Mr _) ?_;rintro r s2 ⟨rfl,rfl⟩;simp only[↓DM,bE,DX,Nz,↓DN,Qa,Qb,Qc,Qd,Qe,Qf,Qg,Qh,reduceCtorEq,↓reduceIte,Na,Nb,Nc,Nk,Nf,Ng,Nh,Za,Zb,Zc,TT,t0,t1,lV,t2,bb];refine hK _ _ ?_;clear hK K;refine jI ?_;rw[Hj,Oa];exact jW ⟨rfl,rfl⟩
   ·have t1:=ko k1;by_cases kp:i%2=0
    ·have t2:(iW (i:Int) 2==0)=true:=(by rw[mR];exact lU (by omega));have t3:(i%2==0)=true:=(by simpa using kp);have Oa:(true&&((nk==0||((nk==1)==(i%2==0)))&& !F))=false:=(by rw[t0,t1,t3];cases F<;>rfl);refine jQ fun K hK=>?_;refine ad (Mr _) ?_;rintro r s2 ⟨rfl,rfl⟩;simp only[↓DM,bE,DX,Nz,↓DN,Qa,Qb,Qc,Qd,Qe,Qf,Qg,Qh,reduceCtorEq,↓reduceIte,Na,Nb,Nc,Nk,Nf,Ng,Nh,Za,Zb,Zc,TT,t0,t1,lV,t2,bb];refine hK _ _ ?_;clear hK K;refine jI ?_;rw[Hj,Oa];exact jW ⟨rfl,rfl⟩
    ·have t2:(iW (i:Int) 2==0)=false:=(by rw[mR];exact ko (by omega));have t3:(i%2==0)=false:=(by simpa using kp);have Oa:(true&&((nk==0||((nk==1)==(i%2==0)))&& !F))= !F:=(by rw[t0,t1,t3];cases F<;>rfl);refine jQ fun K hK=>?_;refine ad (Mr _) ?_;rintro r s2 ⟨rfl,rfl⟩;simp only[↓DM,bE,DX,Nz,↓DN,Qa,Qb,Qc,Qd,Qe,Qf,Qg,Qh,reduceCtorEq,↓reduceIte,Na,Nb,Nc,Nk,Nf,Ng,Nh,Za,Zb,Zc,TT,t0,t1,lV,t2,bb];refine ad (UZ _) ?_;rintro r s3 ⟨rfl,rfl⟩;refine jR hK ?_;clear hK K;refine jI ?_;rw[Hj,Oa];exact jW ⟨rfl,rfl⟩
theorem yP{t:List ah}{name:List UInt8}{a:Nat}:decide (0≤oo t name (a+1))=false↔∀j,j<ev t→a<j→¬(et t (j:Int)∧(nd t (2*j)).name=name):=by
 have h:=vf (fun(j:Nat)=>decide (et t (j:Int)∧(nd t (2*j)).name=name)) (ev t-(a+1)) (a+1);constructor
 ·intro h1 j h2 h3 h4;have :decide (0≤oo t name (a+1))=true:=h.2 ⟨j,by omega,by omega,decide_eq_true h4⟩;rw[h1] at this;cases this
 ·intro h1;cases hd:decide (0≤oo t name (a+1)) with
  |false=>rfl
  |true=>
   obtain⟨j,h2,h3,h4⟩:=h.1 hd;exact absurd (of_decide_eq_true h4) (h1 j (by omega) (by omega))
theorem kf(hG:Γ 3=fi.map oJ)(t:List ah)(ht:eI t)(s:AS):aj prog Γ 101 [aW t] s (fun r s'=>r=.v (.bool (decide (bf t)))∧s'=s):=by
 refine aa func101 rfl ntmps101 results101 (by simp) ?_;have kq:=ht.1;have qL:=fun s=>oq (Γ:=Γ) t kq s;have Px:=fun i s=>lu (Γ:=Γ) t kq i s;have Sw:=fun i(h:i<t.length)s=>C8 (Γ:=Γ) hG t ht i h s;have B3:=fun name a(h:a≤2^60)s=>Ap (Γ:=Γ) t kq name a h s;have DE:=fun a k h s=>Ao (Γ:=Γ) t kq a k h s;have cT:=fun i(h:i<t.length)=>dh (t:=t) h;have YD:=CG t;have Mt:aI t≠0→t.length=2*aI t-1:=fun h=>(bG.resolve_left h).2;have PT:aI t=0→decide (bf t)=false:=fun h=>decide_eq_false fun k=>k.1 h;have PU:∀i,i<t.length→¬gp t i→decide (bf t)=false:=fun i h1 h2=>decide_eq_false fun k=>h2 (k.2.1 i h1);have qG:aI t≠0→(∀i,i<t.length→gp t i)→decide (bf t)=(((aI t:Int)==1)||decide ((0:Int)<(ga (et t) (aI t/2) (aI t-aI t/2):Int))):=by
  intro h1 h2;rw[Bool.eq_iff_iff,decide_eq_true_iff,Bool.or_eq_true,beq_iff_eq,decide_eq_true_iff];constructor
  ·rintro⟨_,_,h3⟩;exact h3.imp (fun q=>by omega) (fun q=>by omega)
  ·intro h3;exact⟨h1,h2,h3.imp (fun q=>by omega) (fun q=>by omega)⟩
 unfold aW at *
 generalize aK ah.cells t=X at *
 generalize decide (bf t)=PR at *
 refine jA ?_;refine jK (qL _) ?_;rintro s1 rfl;refine wK fun K hK=>?_;refine jA ?_;refine ag ?_;refine aD (fun E s2=>∃i:Nat,i≤t.length∧(0<i→aI t≠0)∧(∀j,j<i→gp t j)∧E 9=.v (.int .i64 i)∧E 8=.v (.int .i64 t.length)∧E 3=.v (.int .i64 (aI t))∧E 0=.sl 5 t.length X .any∧s2=s1)
  (fun E _=>match E 9 with |.v (.int _ i)=>t.length-i.toNat|_=>0) ?_ ?_
 ·exact⟨0,Nat.zero_le _,fun h=>absurd h (Nat.lt_irrefl _),fun j h=>absurd h (Nat.not_lt_zero _),rfl,rfl,rfl,rfl,rfl⟩
 ·rintro E1 s2 ⟨i,hi,UI,bS,g9,g8,g3,g0,rfl⟩ -
  by_cases aY:i<t.length
  ·refine jB (Ai @g9 (Ai @g8 (Ai @au (decide_eq_true aY)))) ?_;refine wK fun K2 aU=>?_;refine jE ?_;refine ab ?_;refine aU _ _ ?_;clear aU K2;refine wK fun K3 bq=>?_;refine ag ?_;refine jB @g9 ?_;by_cases hz:aI t=0
   ·refine jB (Ai @g3 (OZ hz)) ?_;refine jE ?_;refine jA ?_;refine jI ?_;rw[PT hz];exact jW ⟨rfl,rfl⟩
   ·have eY:gp t i↔p9 t i∧(i%2=0→et t ((i/2:Nat):Int)→decide (0≤oo t (nd t i).name (i/2+1))=false):=by
     unfold gp;rw[yP]
    have hlen:=Mt hz;have iL:=cT i aY;have Zu:=fun s=>B3 (nd t i).name (i/2+1) (by omega) s;generalize hNI:oo t (nd t i).name (i/2+1)=NI at *
    generalize nd t i=N at *
    obtain⟨nk,nm,ny,ll,nu⟩:=N;unfold ah.cells at iL;simp only at Zu;have cA:(0:Int)≤(i:Int):=(by omega);have mR:iW (i:Int) 2=((i%2:Nat):Int):=lP i 2;have LS:kX .i64 (i:Int) 2=((i/2:Nat):Int):=dL i (by omega);have hq3:dQ .i64 ((i/2:Nat):Int) 1=((i/2+1:Nat):Int):=bd _ (by omega);have bX:gp t i→∀(E:Env),E 9=.v (.int .i64 i)→E 8=.v (.int .i64 t.length)→E 3=.v (.int .i64 (aI t))→E 0=.sl 5 t.length X .any→K3 E s2:=by
     intro hg E f9 f8 f3 f0;refine bq _ _ ?_;clear bq K3;refine jD (Ai @f9 (bd i (by omega))) ?_;refine⟨⟨i+1,by omega,fun _=>hz,?_,rfl,f8,f3,f0,rfl⟩,?_⟩
     ·intro j hj;by_cases e:j=i
      ·rw[e];exact hg
      ·exact bS j (by omega)
     ·simp only[g9,aB,↓reduceIte];omega
    clear bq;refine jS (Ai @g3 (Ai (Ic hz) @g0)) fun K hK=>?_;refine ad (Sw i aY _) ?_;rintro r s3 ⟨rfl,rfl⟩;by_cases hf:p9 t i
    ·rw[decide_eq_true hf];by_cases hp:i%2=0
     ·have t2:(iW (i:Int) 2==0)=true:=(by rw[mR];exact lU (by omega));simp only[↓DM,bE,DX,Nz,↓DN,Qa,Qb,Qc,Qd,Qe,Qf,Qg,Qh,reduceCtorEq,↓reduceIte,Na,Nb,Nc,Nk,Nf,Ng,Nh,Za,Zb,Zc,TT,lV,t2,g0,LS];refine ad (Px _ _) ?_;rintro r s4 ⟨rfl,rfl⟩;by_cases hm:et t ((i/2:Nat):Int)
      ·rw[decide_eq_true hm];refine jN (Ai @lV (Ai @g0 (Ai @au (Ai @aY (Ai @cA (Ai @iL (Ai @LS @hq3))))))) ?_;refine ad (Zu _) ?_;rintro r s5 ⟨rfl,rfl⟩;by_cases hn:0≤NI
       ·have fW:¬gp t i:=fun k=>by
         have:=(eY.1 k).2 hp hm;exact absurd hn (of_decide_eq_false this)
        refine jV (decide_eq_true hn) hK ?_;clear hK K;refine jE ?_;refine jA ?_;refine jI ?_;rw[PU i aY fW];exact jW ⟨rfl,rfl⟩
       ·have hg:gp t i:=eY.2 ⟨hf,fun _ _=>decide_eq_false hn⟩;refine jV (decide_eq_false hn) hK ?_;clear hK K;refine jF ?_;refine ab ?_;simp only[aq,aA,if_true,if_false];exact bX hg _ g9 g8 g3 g0
      ·have hg:gp t i:=eY.2 ⟨hf,fun _ k=>absurd k hm⟩;rw[decide_eq_false hm];refine jR hK ?_;clear hK K;refine jF ?_;refine ab ?_;simp only[aq,aA,if_true,if_false];exact bX hg _ g9 g8 g3 g0
     ·have t2:(iW (i:Int) 2==0)=false:=(by rw[mR];exact ko (by omega));have hg:gp t i:=eY.2 ⟨hf,fun k=>absurd k hp⟩;simp only[↓DM,bE,DX,Nz,↓DN,Qa,Qb,Qc,Qd,Qe,Qf,Qg,Qh,reduceCtorEq,↓reduceIte,Na,Nb,Nc,Nk,Nf,Ng,Nh,Za,Zb,Zc,TT,lV,t2];refine hK _ _ ?_;clear hK K;refine jF ?_;refine ab ?_;simp only[aq,aA,if_true,if_false];exact bX hg _ g9 g8 g3 g0
    ·have fW:¬gp t i:=fun k=>hf k.1;rw[decide_eq_false hf];refine jR hK ?_;clear hK K;refine jE ?_;refine jA ?_;refine jI ?_;rw[PU i aY fW];exact jW ⟨rfl,rfl⟩
  ·refine jB (Ai @g9 (Ai @g8 (Ai @au (decide_eq_false aY)))) ?_;refine wK fun K2 aU=>?_;refine jF ?_;refine aC ?_;simp only[aA,aq,if_true];refine hK _ _ ?_;clear hK aU K2 K;have Mu:∀j,j<t.length→gp t j:=fun j h=>bS j (by omega);by_cases hz:aI t=0
   ·have hp:decide ((0:Int)<((aI t:Nat):Int))=false:=decide_eq_false (by omega);refine jB (Ai @g3 (Ai (ko (show ¬((aI t:Nat):Int)=1 by omega)) @hp)) ?_;refine jI ?_;rw[PT hz];exact jW ⟨rfl,rfl⟩
   ·have hp:decide ((0:Int)<((aI t:Nat):Int))=true:=decide_eq_true (by omega);have dV:=qG hz Mu;by_cases h1:aI t=1
    ·have e1:=lU (show((aI t:Nat):Int)=1 by omega);rw[e1] at dV;refine jB (Ai @g3 @e1) ?_;refine jI ?_;rw[dV];exact jW ⟨rfl,rfl⟩
    ·have e1:=ko (show ¬((aI t:Nat):Int)=1 by omega);rw[e1,Bool.false_or] at dV;have e2:kX .i64 (aI t:Int) 2=((aI t/2:Nat):Int):=dL _ (by omega);have e3:dr .i64 (aI t:Int) 1=(((aI t/2+(aI t-aI t/2):Nat)):Int)-1:=(by rw[bO (by omega)];omega);have hcm:=fun s=>DE (aI t/2) (aI t-aI t/2) (by omega) s;generalize (((aI t/2+(aI t-aI t/2):Nat)):Int)-1=LL at *
     refine jS (Ai @g3 (Ai @e1 (Ai @hp (Ai @lV (Ai @e2 (Ai @e3 @g0)))))) fun K hK=>?_;refine ad (hcm _) ?_;rintro r s3 ⟨rfl,rfl⟩;refine jR hK ?_;clear hK K;refine jI ?_;rw[dV];exact jW ⟨rfl,rfl⟩
end Go.Proofs.YtbiefppedlodiaaGreatDoor
