/- Contracts of functions, each walked once; each theorem states its conditions. -/
import Derived.Test.YtbiefppedlodiaaGreatDoorAMp6
import Derived.Test.YtbiefppedlodiaaGreatDoorW1
import Derived.Test.YtbiefppedlodiaaGreatDoorW2
import Derived.Test.YtbiefppedlodiaaGreatDoorAMp5
open Bool renaming and_false -> dj, and_true -> cT, eq_iff_iff -> bW, false_and -> di, or_eq_true -> cp, true_and -> cA
open Int renaming reduceBEq -> dv
open List renaming getElem_mem -> bm, take_of_length_le -> ae, toList_toArray -> ah
open Nat renaming add_le_add_right -> cJ, le_refl -> ax, le_trans -> cD, zero_le -> aB
set_option linter.unusedSimpArgs false
set_option linter.unusedVariables false
open Nat renaming reduceLT -> Na, reduceLeDiff -> Nb, reduceEqDiff -> Nc, reduceAdd -> Nk, reduceMul -> Nf, reducePow -> Ng, reduceSub -> Nh, reduceBEq -> Nz
open Int renaming reduceLT -> Za, reduceLE -> Zb, reduceToNat -> Zc
open And renaming intro -> Ai
open Go.AM renaming ashift -> Qa, aconv -> Qb, aindexAddr -> Qc, aindex -> Qd, aslice -> Qe, abuiltin -> Qf, awp_reg_seq -> wS, awp_reg_end -> wE, awp_seq_k -> wK, awp_cond_k -> wC
open Go.AM.AV renaming cells -> Qg, one -> Qh
set_option maxRecDepth 100000
set_option maxHeartbeats 8000000
namespace Go.Proofs.YtbiefppedlodiaaGreatDoor
open Go Go.AM Go.Proofs Tryz
variable{Γ:Nat->List AV}
theorem gz(n:Nat)(s:AS):aI prog Γ 44 [.v (.int .u64 n)] s (.v (.bool (decide (2<=(n:Int))&&decide ((n:Int)<=2305843009213693949)))):=by
 refine xH func44 ntmps44 results44 ?_;rcases ff2 (decide (2<=(n:Int))) (decide ((n:Int)<=2305843009213693949)) with hd|hd|hd;all_goals
  refine jA ?_;refine jB @hd ?_;refine jI ?_;refine jW ⟨?_,rfl⟩;simp only[hd,cT,cA,di,dj]
theorem oP(n:Nat)(s:AS):aI prog Γ 53 [.v (.int .u64 n)] s (.v (.bool (decide (2<=(n:Int))&&decide ((n:Int)<=2305843009213693949)))):=by
 refine xH func53 ntmps53 results53 ?_;rcases ff2 (decide (2<=(n:Int))) (decide ((n:Int)<=2305843009213693949)) with hd|hd|hd;all_goals
  refine jA ?_;refine jB @hd ?_;refine jI ?_;refine jW ⟨?_,rfl⟩;simp only[hd,cT,cA,di,dj]
theorem iq(a b:List UInt8)(s:AS):aI prog Γ 62 [dm a .any,dm b .any] s (.v (.bool (decide (a=b)))):=by
 refine xH func62 ntmps62 results62 ?_;refine jA ?_;refine jB @yB ?_;exact jJ
theorem xe{a b:Nat}(h:a=b):(((a:Int) != (b:Int)))=false:=by subst h;simp
theorem zA{a b:Nat}(h:a≠b):(((a:Int) != (b:Int)))=true:=by simp;omega
theorem m8{a b:Int}(h:a=b):(a != b)=false:=by subst h;simp
theorem mw{a b:Int}(h:a≠b):(a != b)=true:=by simpa using h
theorem zB(a b:List Int)(hl:a.length<=2^61)(s:AS):aI prog Γ 231 [ea a .any,ea b .any] s (.v (.bool (decide (a=b)))):=by
 refine xH func231 ntmps231 results231 ?_;unfold ea;refine yd fun K hK=>?_;by_cases h0:a.length=b.length
 ·refine jB (xe h0) ?_;refine gW ?_;refine hK _ _<|Jc fun K hK=>?_;refine dU (fun E s1=>∃i:Nat,i<=a.length∧E 13=.v (.int .i64 i)∧E 12=.v (.int .i64 a.length)∧E 0=.sl 1 a.length (a.map ed) .any∧E 1=.sl 1 b.length (b.map ed) .any∧a.take i=b.take i∧s1=s)
   (fun E _=>match E 13 with |.v (.int _ i)=>a.length-i.toNat|_=>0) ?_ ?_
  ·exact⟨0,aB _,by simp[dY],by simp[dY],by simp[dY,eV],by simp[dY,eV],rfl,rfl⟩
  ·rintro E1 s1 ⟨i,hi,Tj,FD,Wn,h1,he,rfl⟩ -
   by_cases et:i<a.length
   ·have Jk:i<b.length:=oM;refine jB (Ai @Tj (Ai @FD (Ai @dB (dT et)))) ?_;refine Ja fun K2 eH=>?_;refine eH _ _<|nF fun K3 eX=>?_;refine jB @Tj ?_;have gC:(0:Int)<=(i:Int):=oM;have gO:=jt et;have hbt:=jt Jk;by_cases hx:a[i]=b[i]
    ·refine eB T.mixed [] kM ?_;intro K hK;refine jV (Ai @Tj (Ai @Wn (Ai @h1 (Ai @gC (Ai @dB (Ai @et (Ai @Jk (Ai @gO (Ai @hbt (m8 hx)))))))))) hK ?_;clear hK K;refine gW ?_;simp only[dn,dJ,if_true,if_false];refine eX _ _<|jD (Ai @Tj (js i oM)) ?_;refine⟨⟨i+1,oM,rfl,FD,Wn,h1,yO et Jk he hx,rfl⟩,?_⟩;simp only[Tj,dY,↓reduceIte];omega
    ·refine eB T.mixed [] kM ?_;intro K hK;refine jV (Ai @Tj (Ai @Wn (Ai @h1 (Ai @gC (Ai @dB (Ai @et (Ai @Jk (Ai @gO (Ai @hbt (mw hx)))))))))) hK ?_;clear hK K;refine Ot ?_;refine eF ?_;simp only[dJ,dn];simp only[fX,fe,fq,iu,ah,↓eL];try simp only[UP,DF,Nc,↓reduceIte,DT]
     refine jW ⟨?_,rfl⟩;rw[dF];intro e;subst e;exact hx rfl
   ·refine jB (Ai @Tj (Ai @FD (Ai @dB (dF et)))) ?_;refine Jb fun K2 eH=>?_;simp only[dJ,dn,if_true];refine hK _ _<|wq ?_;refine jW ⟨?_,rfl⟩;rw[ae oM,ae oM] at he;rw[dT he]
 ·refine jB (zA h0) ?_;refine mS ?_;refine jW ⟨?_,rfl⟩;rw[dF (fun e=>h0 (by rw[e]))];try rfl
theorem FL(a b:List Int)(hl:a.length<=2^61)(s:AS):aI prog Γ 123 [ea a .any,ea b .any] s (.v (.bool (decide (a=b)))):=by
 refine xH func123 ntmps123 results123 ?_;unfold ea;refine yd fun K hK=>?_;by_cases h0:a.length=b.length
 ·refine jB (xe h0) ?_;refine gW ?_;refine hK _ _<|Jc fun K hK=>?_;refine dU (fun E s1=>∃i:Nat,i<=a.length∧E 5=.v (.int .i64 i)∧E 0=.sl 1 a.length (a.map ed) .any∧E 1=.sl 1 b.length (b.map ed) .any∧a.take i=b.take i∧s1=s)
   (fun E _=>match E 5 with |.v (.int _ i)=>a.length-i.toNat|_=>0) ?_ ?_
  ·exact⟨0,aB _,by simp[dY],by simp[dY,eV],by simp[dY,eV],rfl,rfl⟩
  ·rintro E1 s1 ⟨i,hi,h5,Wn,h1,he,rfl⟩ -
   refine wK fun K2 eH=>?_;by_cases et:i<a.length
   ·have Jk:i<b.length:=oM;refine jB (Ai @h5 (Ai @Wn (Ai @dB (dT et)))) ?_;refine ue ?_;refine eH _ _<|nF fun K3 eX=>?_;have gC:(0:Int)<=(i:Int):=oM;have gO:=jt et;have hbt:=jt Jk;by_cases hx:a[i]=b[i]
    ·refine eB T.mixed [] kM ?_;intro K hK;refine jV (Ai @h5 (Ai @Wn (Ai @h1 (Ai @gC (Ai @dB (Ai @et (Ai @Jk (Ai @gO (Ai @hbt (m8 hx)))))))))) hK ?_;clear hK K;refine gW ?_;simp only[dn,dJ,if_true,if_false];refine eX _ _<|jD (Ai @h5 (js i oM)) ?_;refine⟨⟨i+1,oM,rfl,Wn,h1,yO et Jk he hx,rfl⟩,?_⟩;simp only[h5,dY,↓reduceIte];omega
    ·refine eB T.mixed [] kM ?_;intro K hK;refine jV (Ai @h5 (Ai @Wn (Ai @h1 (Ai @gC (Ai @dB (Ai @et (Ai @Jk (Ai @gO (Ai @hbt (mw hx)))))))))) hK ?_;clear hK K;refine Ot ?_;refine eF ?_;simp only[dJ,dn];simp only[fX,fe,fq,iu,ah,↓eL];try simp only[UP,DF,Nc,↓reduceIte,DT]
     refine jW ⟨?_,rfl⟩;rw[dF];intro e;subst e;exact hx rfl
   ·refine jB (Ai @h5 (Ai @Wn (Ai @dB (dF et)))) ?_;refine sI ?_;simp only[dJ,dn,if_true];refine hK _ _<|wq ?_;refine jW ⟨?_,rfl⟩;rw[ae oM,ae oM] at he;rw[dT he]
 ·refine jB (zA h0) ?_;refine mS ?_;refine jW ⟨?_,rfl⟩;rw[dF (fun e=>h0 (by rw[e]))];try rfl
theorem El(N M:cH)(hl:N.nS.length<=2^61)(s:AS):aI prog Γ 195 [.agg N.cells,.agg M.cells] s (.v (.bool (decide (N=M)))):=by
 refine xH func195 ntmps195 results195 ?_;unfold cH.cells;obtain⟨k,m,y,p,u⟩:=N;obtain⟨k',m',y',p',u'⟩:=M;rw[yP];refine jS @ea.eq_1 fun K hK=>?_;intro o ho;intro o' wy;have gP:o≠o':=by
  intro e;subst e;simp[AS.set] at wy
 have hle:s.le ((s.set o [.v (.int .i64 k),dm m .any,.v (.int .u64 y),dm p .any,ea u .any]).set o' [.v (.int .i64 k'),dm m' .any,.v (.int .u64 y'),dm p' .any,ea u' .any]):=AS.dW (AS.dW (AS.le.refl s) ho _) (by simpa[AS.set,dY,gP.symm] using wy) _;refine hK _ _ ?_;rcases ff5 (k==k') ((y:Int)==(y':Int)) (decide (m=m')) (decide (p=p')) (decide (u=u')) with hd|hd|hd|hd|hd|hd
 ·refine jB (Ai @gP (Ai @hd @ea.eq_1)) ?_;refine jI ?_;refine⟨_,s,AV.dV.refl _,hle,?_,rfl⟩;simp only[hd,cT,cA,di,dj];try rfl
 ·refine jB (Ai @gP (Ai @hd @ea.eq_1)) ?_;refine jI ?_;refine⟨_,s,AV.dV.refl _,hle,?_,rfl⟩;simp only[hd,cT,cA,di,dj];try rfl
 ·refine jS (Ai @gP (Ai @hd @ea.eq_1)) fun K hK=>?_;refine b6 (iq m m' _) ?_;rintro r s' ⟨rfl,rfl⟩;refine jV (Ai @gP (Ai @hd @ea.eq_1)) hK ?_;refine jI ?_;refine⟨_,s,AV.dV.refl _,hle,?_,rfl⟩;simp only[hd,cT,cA,di,dj];try rfl
 ·refine jS (Ai @gP (Ai @hd @ea.eq_1)) fun K hK=>?_;refine b6 (iq m m' _) ?_;rintro r s' ⟨rfl,rfl⟩;refine jN (Ai @gP (Ai @hd @ea.eq_1)) ?_;refine b6 (iq p p' _) ?_;rintro r s' ⟨rfl,rfl⟩;refine jV (Ai @gP (Ai @hd @ea.eq_1)) hK ?_;refine jI ?_;refine⟨_,s,AV.dV.refl _,hle,?_,rfl⟩;simp only[hd,cT,cA,di,dj];try rfl
 all_goals
  refine jS (Ai @gP (Ai @hd @ea.eq_1)) fun K hK=>?_;refine b6 (iq m m' _) ?_;rintro r s' ⟨rfl,rfl⟩;refine jN (Ai @gP (Ai @hd @ea.eq_1)) ?_;refine b6 (iq p p' _) ?_;rintro r s' ⟨rfl,rfl⟩;refine jN (Ai @gP (Ai @hd @ea.eq_1)) ?_;refine b6 (zB u u' hl _) ?_;rintro r s' ⟨rfl,rfl⟩;refine jV (Ai @gP (Ai @hd @ea.eq_1)) hK ?_;refine jI ?_;refine⟨_,s,AV.dV.refl _,hle,?_,rfl⟩;simp only[hd,cT,cA,di,dj];try rfl
theorem uz(N M:cH)(hl:N.nS.length<=2^61)(s:AS):aI prog Γ 60 [.agg N.cells,.agg M.cells] s (.v (.bool (decide (N=M)))):=by
 refine xH func60 ntmps60 results60 ?_;unfold cH.cells;obtain⟨k,m,y,p,u⟩:=N;obtain⟨k',m',y',p',u'⟩:=M;rw[yP];refine jS @ea.eq_1 fun K hK=>?_;intro o ho;intro o' wy;have gP:o≠o':=by
  intro e;subst e;simp[AS.set] at wy
 have hle:s.le ((s.set o [.v (.int .i64 k),dm m .any,.v (.int .u64 y),dm p .any,ea u .any]).set o' [.v (.int .i64 k'),dm m' .any,.v (.int .u64 y'),dm p' .any,ea u' .any]):=AS.dW (AS.dW (AS.le.refl s) ho _) (by simpa[AS.set,dY,gP.symm] using wy) _;refine hK _ _ ?_;rcases ff5 (k==k') ((y:Int)==(y':Int)) (decide (m=m')) (decide (p=p')) (decide (u=u')) with hd|hd|hd|hd|hd|hd;case inr.inr.inr.inr.inl|inr.inr.inr.inr.inr=>
  refine jS (Ai @gP (Ai @hd (Ai @ea.eq_1 @yB))) fun K hK=>?_;refine b6 (FL u u' hl _) ?_;rintro r s' ⟨rfl,rfl⟩;refine jV (Ai @gP (Ai @hd (Ai @ea.eq_1 @yB))) hK ?_;refine jI ?_;refine⟨_,s,AV.dV.refl _,hle,?_,rfl⟩;simp only[hd,cT,cA,di,dj];try rfl
 all_goals
  refine jB (Ai @gP (Ai @hd (Ai @ea.eq_1 @yB))) ?_;refine jI ?_;refine⟨_,s,AV.dV.refl _,hle,?_,rfl⟩;simp only[hd,cT,cA,di,dj];try rfl
theorem ku{a b:Int}(h:a≠b):(a==b)=false:=by simpa using h
theorem oT{a b:Int}(h:a=b):(a==b)=true:=by simpa using h
theorem Iy(l:List Int)(hl:l.length<=2^61)(s:AS):aI prog Γ 197 [ea l .any] s (.v (.bool (decide (oL l)))):=by
 refine xH func197 ntmps197 results197 ?_;unfold ea;refine Q2 fun K hK=>?_;refine dU (fun E s1=>∃i:Nat,i<=l.length∧E 7=.v (.int .i64 i)∧E 6=.v (.int .i64 l.length)∧E 0=.sl 1 l.length (l.map ed) .any∧E 5=.sl 1 l.length (l.map ed) .any∧(∀j,j<i->AA l j)∧s1=s)
  (fun E _=>match E 7 with |.v (.int _ i)=>l.length-i.toNat|_=>0) ?_ ?_
 ·exact⟨0,aB _,by simp[dY],by simp[dY],by simp[dY,eV],by simp[dY,eV],sM,rfl⟩
 ·rintro E1 s1 ⟨i,hi,h7,h6,h0,h5,fG,rfl⟩ -
  by_cases et:i<l.length
  ·refine jB (Ai @h7 (Ai @h6 (Ai @dB (dT et)))) ?_;refine Ja fun K2 eH=>?_;refine eH _ _<|nF fun K3 eX=>?_;have gC:(0:Int)<=(i:Int):=oM;have gO:=jt et;have mR:(AA l i)->∀E2:Env,E2 7=.v (.int .i64 i)->E2 6=.v (.int .i64 l.length)->E2 0=.sl 1 l.length (l.map ed) .any->E2 5=.sl 1 l.length (l.map ed) .any->K3 E2 s1:=by
    intro ho E2 g7 g6 g0 g5;refine eX _ _ ?_;clear eX K3;refine jD (Ai @g7 (js i oM)) ?_;refine⟨⟨i+1,oM,rfl,g6,g0,g5,?_,rfl⟩,?_⟩
    ·intro j hj;by_cases Hk:j<i
     ·exact fG j Hk
     ·obtain rfl:j=i:=oM;exact ho
    ·simp only[h7,dY,↓reduceIte];omega
   clear eX;have mq:¬AA l i->decide (oL l)=false:=fun h=>dF fun hr=>h (hr i et);refine jB (Ai @h7 (Ai @h5 (Ai @gC (Ai @dB (Ai @et @gO))))) ?_;by_cases h1:l[i]<0
   ·refine jB (dT h1) ?_;refine Ot ?_;refine eF ?_;simp only[dJ,dn];simp only[fX,fe,fq,iu,ah,↓eL];try simp only[UP,DF,Nc,↓reduceIte,DT]
    rw[mq (fun h=>by have:=qX et h;omega)];exact jW ⟨rfl,rfl⟩
   by_cases h2:32<=l[i]
   ·refine jB (Ai (dF h1) (dT h2)) ?_;refine Ot ?_;refine eF ?_;simp only[dJ,dn];simp only[fX,fe,fq,iu,ah,↓eL];try simp only[UP,DF,Nc,↓reduceIte,DT]
    rw[mq (fun h=>by have:=qX et h;omega)];exact jW ⟨rfl,rfl⟩
   by_cases h3:(0:Int)<(i:Int)
   ·have hj:i-1<l.length:=oM;have tM:gR .i64 (i:Int) 1=((i-1:Nat):Int):=(by rw[fD oM];omega);have zC:=jt hj;have rK:(0:Int)<=((i-1:Nat):Int):=oM;by_cases h4:l[i]<=l[i-1]
    ·refine jB (Ai (dF h1) (Ai (dF h2) (Ai (dT h3) (Ai @h0 (Ai @tM (Ai @rK (Ai @dB (Ai @hj (Ai @zC (dT h4)))))))))) ?_;refine Ot ?_;refine eF ?_;simp only[dJ,dn];simp only[fX,fe,fq,iu,ah,↓eL];try simp only[UP,DF,Nc,↓reduceIte,DT]
     rw[mq (fun h=>by have:=(qX et h).2.2 oM;omega)];exact jW ⟨rfl,rfl⟩
    ·refine jB (Ai (dF h1) (Ai (dF h2) (Ai (dT h3) (Ai @h0 (Ai @tM (Ai @rK (Ai @dB (Ai @hj (Ai @zC (dF h4)))))))))) ?_;refine gW ?_;simp only[dn,dJ,if_true,if_false];exact mR (yQ et oM oM (fun _=>oM)) _ h7 h6 h0 h5
   ·refine jB (Ai (dF h1) (Ai (dF h2) (dF h3))) ?_;refine gW ?_;simp only[dn,dJ,if_true,if_false];exact mR (yQ et oM oM (fun q=>oM)) _ h7 h6 h0 h5
  ·refine jB (Ai @h7 (Ai @h6 (Ai @dB (dF et)))) ?_;refine Jb fun K2 eH=>?_;simp only[dJ,dn,if_true];refine hK _ _<|wq ?_;refine jW ⟨?_,rfl⟩;rw[dT (show oL l from fun j hj=>fG j oM)]
theorem xV(N:cH)(s:AS):aI prog Γ 196 [.agg N.cells] s (.v (.bool (decide N.held))):=by
 refine xH func196 ntmps196 results196 ?_;unfold cH.cells;obtain⟨k,m,y,p,u⟩:=N;refine ev 1 (by simp[fT]) ?_;intro K hK;refine jN @ea.eq_1 ?_;intro o ho;refine hK _ _ o _ rfl ho ?_;clear hK K ho;have hr:∀b,(cH.held ⟨k,m,y,p,u⟩↔b=true)->decide (cH.held ⟨k,m,y,p,u⟩)=b:=by
  intro b h;cases b
  ·exact dF (fun h2=>by have:=h.1 h2;cases this)
  ·exact dT (h.2 rfl)
 by_cases h1:2<=(y:Int)∧(y:Int)<=2305843009213693949
 ·have hd:(decide (2<=(y:Int))&&decide ((y:Int)<=2305843009213693949))=true:=(by simp;omega);by_cases h2:p.length=0
  ·refine jQ fun K hK=>?_;refine b6 (gz y s) ?_;rintro r s' ⟨rfl,rfl⟩;rw[hd];refine jV (Ai @h2 (show(((0:Nat):Int)==0)=true from rfl)) hK ?_;refine jI ?_;rw[hr true ⟨fun _=>rfl,fun _=>⟨by simp only;omega,by simp only;omega,.inl h2⟩⟩];exact jW ⟨rfl,rfl⟩
  ·by_cases h3:p.length=32
   ·refine jQ fun K hK=>?_;refine b6 (gz y s) ?_;rintro r s' ⟨rfl,rfl⟩;rw[hd];refine jV (Ai @h3 (Ai (show(((32:Nat):Int)==0)=false from rfl) (show(((32:Nat):Int)==32)=true from rfl))) hK ?_;refine jI ?_;rw[hr true ⟨fun _=>rfl,fun _=>⟨by simp only;omega,by simp only;omega,.inr h3⟩⟩];exact jW ⟨rfl,rfl⟩
   ·refine jQ fun K hK=>?_;refine b6 (gz y s) ?_;rintro r s' ⟨rfl,rfl⟩;rw[hd];refine jV (Ai (ku (show(p.length:Int)≠0 by omega)) (ku (show(p.length:Int)≠32 by omega))) hK ?_;refine jI ?_;rw[hr false ⟨fun h=>by have:=h.2.2;simp only at this;omega,fun h=>by cases h⟩];exact jW ⟨rfl,rfl⟩
 ·have hd:(decide (2<=(y:Int))&&decide ((y:Int)<=2305843009213693949))=false:=(by simp;omega);refine jQ fun K hK=>?_;refine b6 (gz y s) ?_;rintro r s' ⟨rfl,rfl⟩;rw[hd];refine jR hK ?_;refine jI ?_;rw[hr false ⟨fun h=>by have:=h.1;have:=h.2.1;simp only at *;omega,fun h=>by cases h⟩];exact jW ⟨rfl,rfl⟩
theorem zD:(AV.agg [.v (.int .i64 0),.v (.slice none 0 0),.v (.int .u64 0),.v (.slice none 0 0),.v (.slice none 0 0)]).dV (.agg cH.nr.cells):=
 AV.qS (.cons (AV.dV.refl _) (.cons AV.eh (.cons (AV.dV.refl _) (.cons AV.eh (.cons AV.eh .nil)))))
theorem pW(N:cH)(hl:N.nS.length<=2^61)(s:AS):aI prog Γ 161 [.agg N.cells] s (.v (.bool (decide N.right))):=by
 refine xH func161 ntmps161 results161 ?_;unfold cH.cells;obtain⟨k,m,y,p,u⟩:=N;refine ev 1 (by simp[fT]) ?_;intro K hK;refine jN @ea.eq_1 ?_;intro o ho;refine hK _ _ o _ rfl ho ?_;clear hK K ho;have oi:∀b,(cH.right ⟨k,m,y,p,u⟩↔b=true)->decide (cH.right ⟨k,m,y,p,u⟩)=b:=by
  intro b h;cases b
  ·exact dF (fun h2=>by have:=h.1 h2;cases this)
  ·exact dT (h.2 rfl)
 refine Jc fun K hK=>?_;by_cases h0:k=0
 ·refine jB (oT h0) ?_;refine jE<|jS @ea.eq_1 fun K hK=>?_;refine b6 (dS.mB (.cons (AV.dV.refl _) (.cons zD .nil)) (El ⟨k,m,y,p,u⟩ cH.nr hl s)) ?_;rintro r s' ⟨rfl,rfl⟩;refine jR hK ?_;clear hK K;refine eF ?_;simp only[dJ,dn];simp only[fX,fe,fq,iu,ah,↓eL];try simp only[UP,DF,Nc,↓reduceIte,DT]
  refine jW ⟨?_,rfl⟩;rw[oi _ ((qY (N:=⟨k,m,y,p,u⟩) h0).trans decide_eq_true_iff.symm)]
 by_cases h1:k=1
 ·have zY:=lk (N:=⟨k,m,y,p,u⟩) h1;simp only at zY;rcases ff4 (decide (1<=(m.length:Int))) (decide ((m.length:Int)<=16)) (decide (cH.held ⟨k,m,y,p,u⟩)) ((u.length:Int)==0) with hd|hd|hd|hd|hd;case inl|inr.inl=>
   refine jB (ku h0) ?_;refine jF<|jB (oT h1) ?_;refine jE<|jB (Ai @hd @ea.eq_1) ?_;refine eF ?_;simp only[dJ,dn];simp only[fX,fe,fq,iu,ah,↓eL];try simp only[UP,DF,Nc,↓reduceIte,DT]
   refine jW ⟨?_,rfl⟩;simp only[decide_eq_true_eq,decide_eq_false_iff_not,beq_iff_eq] at hd;rw[oi false ⟨fun h=>by have:=zY.1 h;omega,fun h=>by cases h⟩]
  all_goals
   refine jB (ku h0) ?_;refine jF<|jB (oT h1) ?_;refine jE<|jS (Ai @hd @ea.eq_1) fun K hK=>?_;refine b6 (xV ⟨k,m,y,p,u⟩ s) ?_;rintro r s' ⟨rfl,rfl⟩;refine jV (Ai @hd @ea.eq_1) hK ?_;clear hK K;refine eF ?_;simp only[dJ,dn];simp only[fX,fe,fq,iu,ah,↓eL];try simp only[UP,DF,Nc,↓reduceIte,DT]
   refine jW ⟨?_,rfl⟩;simp only[decide_eq_true_eq,decide_eq_false_iff_not,beq_iff_eq,beq_eq_false_iff_ne] at hd
  ·rw[oi false ⟨fun h=>absurd (zY.1 h).2.2.1 hd.2.2,fun h=>by cases h⟩]
  ·rw[oi false ⟨fun h=>by have:=(zY.1 h).2.2.2;omega,fun h=>by cases h⟩]
  ·rw[oi true ⟨fun _=>rfl,fun _=>zY.2 ⟨oM,oM,hd.2.2.1,oM⟩⟩]
 by_cases h2:k=2
 ·have zY:=me (N:=⟨k,m,y,p,u⟩) h2;simp only at zY hl;rcases ff3 ((m.length:Int)==0) (decide (cH.held ⟨k,m,y,p,u⟩)) (decide (oL u)) with hd|hd|hd|hd;all_goals
   refine jB (ku h0) ?_;refine jF<|jB (ku h1) ?_;refine jF<|jB (oT h2) ?_;refine jE ?_
  ·refine jB (Ai @hd @ea.eq_1) ?_;refine eF ?_;simp only[dJ,dn];simp only[fX,fe,fq,iu,ah,↓eL];try simp only[UP,DF,Nc,↓reduceIte,DT]
   refine jW ⟨?_,rfl⟩;simp only[beq_eq_false_iff_ne] at hd;rw[oi false ⟨fun h=>by have:=(zY.1 h).1;omega,fun h=>by cases h⟩]
  ·refine jS (Ai @hd @ea.eq_1) fun K hK=>?_;refine b6 (xV ⟨k,m,y,p,u⟩ s) ?_;rintro r s' ⟨rfl,rfl⟩;refine jV (Ai @hd @ea.eq_1) hK ?_;clear hK K;refine eF ?_;simp only[dJ,dn];simp only[fX,fe,fq,iu,ah,↓eL];try simp only[UP,DF,Nc,↓reduceIte,DT]
   refine jW ⟨?_,rfl⟩;simp only[decide_eq_false_iff_not] at hd;rw[oi false ⟨fun h=>absurd (zY.1 h).2.1 hd.2,fun h=>by cases h⟩]
  all_goals
   refine jS (Ai @hd @ea.eq_1) fun K hK=>?_;refine b6 (xV ⟨k,m,y,p,u⟩ s) ?_;rintro r s' ⟨rfl,rfl⟩;refine jN (Ai @hd @ea.eq_1) ?_;refine b6 (Iy u hl _) ?_;rintro r s' ⟨rfl,rfl⟩;refine jV (Ai @hd @ea.eq_1) hK ?_;clear hK K;refine eF ?_;simp only[dJ,dn];simp only[fX,fe,fq,iu,ah,↓eL];try simp only[UP,DF,Nc,↓reduceIte,DT]
   refine jW ⟨?_,rfl⟩;simp only[decide_eq_true_eq,decide_eq_false_iff_not,beq_iff_eq] at hd
  ·rw[oi false ⟨fun h=>absurd (zY.1 h).2.2 hd.2.2,fun h=>by cases h⟩]
  ·rw[oi true ⟨fun _=>rfl,fun _=>zY.2 ⟨oM,hd.2.1,hd.2.2⟩⟩]
 ·refine jB (ku h0) ?_;refine jF<|jB (ku h1) ?_;refine jF<|jB (ku h2) ?_;refine gW ?_;simp only[dn,dJ,if_true,if_false];refine hK _ _<|wq ?_;refine jW ⟨?_,rfl⟩;rw[oi false ⟨fun h=>absurd h (Du (N:=⟨k,m,y,p,u⟩) h0 h1 h2),fun h=>by cases h⟩]
theorem NP{N:cH}(h0:N.kind≠0)(h:N.right):N.held:=by
 unfold cH.right at h;rw[if_neg h0] at h;split at h
 ·exact h.2.2.1
 ·split at h
  ·exact h.2.1
  ·exact h.elim
theorem A2(N:cH)(hl:N.nS.length<=2^61)(s:AS):aI prog Γ 63 [.agg N.cells] s (.v (.bool (decide N.right))):=by
 refine xH func63 ntmps63 results63 ?_;unfold cH.cells;obtain⟨k,m,y,p,u⟩:=N;simp only at hl;refine ev 1 (by simp[fT]) ?_;intro K hK;refine jN @ea.eq_1 ?_;intro o ho;refine hK _ _ o _ rfl ho ?_;clear hK K ho;have oi:∀b,(cH.right ⟨k,m,y,p,u⟩↔b=true)->decide (cH.right ⟨k,m,y,p,u⟩)=b:=by
  intro b h;cases b
  ·exact decide_eq_false (fun h2=>by have:=h.1 h2;cases this)
  ·exact decide_eq_true (h.2 rfl)
 refine wK fun K hK=>?_;by_cases h0:k=0
 ·refine jB (oT h0) ?_;refine jE<|jS @ea.eq_1 fun K hK=>?_;refine b6 (dS.mB (.cons (AV.dV.refl _) (.cons zD .nil)) (uz ⟨k,m,y,p,u⟩ cH.nr hl s)) ?_;rintro r s' ⟨rfl,rfl⟩;refine jR hK ?_;clear hK K;refine jI ?_;refine jW ⟨?_,rfl⟩;rw[oi _ ((qY (N:=⟨k,m,y,p,u⟩) h0).trans decide_eq_true_iff.symm)];try rfl
 ·refine jB (ku h0) ?_;refine gW ?_;refine hK _ _<|UK fun K0 xy K hK=>?_;refine b6 (oP y s) ?_;rintro r s' ⟨rfl,rfl⟩;by_cases hh:cH.held ⟨k,m,y,p,u⟩
  ·have hh':=hh;obtain⟨e1,e2,e3⟩:=hh';simp only at e1 e2 e3;rw[show(decide (2<=(y:Int))&&decide ((y:Int)<=2305843009213693949))=true from by simp;omega];have tB:∀E2:Env,E2 1=.ij [.v (.int .i64 k),.sl 1 m.length (m.map cU) .any,.v (.int .u64 y),.sl 1 p.length (p.map cU) .any,.sl 1 u.length (u.map ed) .any]->K0 E2 s':=by
    intro E2 g1;refine xy _ _ ?_;clear xy K0 hK K;refine wK fun K hK=>?_;by_cases h1:k=1
    ·have zY:=lk (N:=⟨k,m,y,p,u⟩) h1;simp only at zY;refine jB (Ai @g1 (oT h1)) ?_;refine jE ?_;rcases ff3 (decide (1<=(m.length:Int))) (decide ((m.length:Int)<=16)) ((u.length:Int)==0) with hd|hd|hd|hd;all_goals
      refine jB (Ai @g1 @hd) ?_;refine jI ?_;refine jW ⟨?_,rfl⟩;simp only[decide_eq_true_eq,decide_eq_false_iff_not,beq_iff_eq,beq_eq_false_iff_ne] at hd
     ·rw[oi false ⟨fun h=>by have:=zY.1 h;omega,fun h=>by cases h⟩];try rfl
     ·rw[oi false ⟨fun h=>by have:=zY.1 h;omega,fun h=>by cases h⟩];try rfl
     ·rw[oi false ⟨fun h=>by have:=(zY.1 h).2.2.2;omega,fun h=>by cases h⟩];try rfl
     ·rw[oi true ⟨fun _=>rfl,fun _=>zY.2 ⟨by omega,by omega,hh,by omega⟩⟩];try rfl
    ·refine jB (Ai @g1 (ku h1)) ?_;refine gW ?_;refine hK _ _ ?_;clear hK K;refine wK fun K hK=>?_;by_cases h2:k=2
     ·have zY:=me (N:=⟨k,m,y,p,u⟩) h2;simp only at zY;by_cases hm:(0:Int)<(m.length:Int)
      ·refine jB (Ai @g1 (Ai (m8 h2) (decide_eq_true hm))) ?_;refine mS ?_;refine jW ⟨?_,rfl⟩;rw[oi false ⟨fun h=>by have:=(zY.1 h).1;omega,fun h=>by cases h⟩];try rfl
      ·refine jB (Ai @g1 (Ai (m8 h2) (decide_eq_false hm))) ?_;refine gW ?_;refine hK _ _ ?_;clear hK K;refine wK fun K hK=>?_;refine jB @g1 ?_;refine dH<|dU (fun E s1=>∃i:Nat,i<=u.length∧E 3=.v (.int .i64 i)∧E 1=.ij [.v (.int .i64 k),.sl 1 m.length (m.map cU) .any,.v (.int .u64 y),.sl 1 p.length (p.map cU) .any,.sl 1 u.length (u.map ed) .any]∧(∀j,j<i->AA u j)∧s1=s')
        (fun E _=>match E 3 with |.v (.int _ i)=>u.length-i.toNat|_=>0) ?_ ?_
       ·exact⟨0,Nat.zero_le _,rfl,g1,by simp,rfl⟩
       ·rintro E3 s1 ⟨i,hi,h3,Wo,fG,rfl⟩ -
        refine wK fun K2 eH=>?_;by_cases et:i<u.length
        ·refine jB (Ai @h3 (Ai @Wo (Ai @dB (decide_eq_true et)))) ?_;refine ue ?_;refine eH _ _ ?_;clear eH K2;refine nF fun K3 eX=>?_;have gC:(0:Int)<=(i:Int):=(by omega);have gO:=jt et;have mR:(AA u i)->∀E4:Env,E4 3=.v (.int .i64 i)->E4 1=.ij [.v (.int .i64 k),.sl 1 m.length (m.map cU) .any,.v (.int .u64 y),.sl 1 p.length (p.map cU) .any,.sl 1 u.length (u.map ed) .any]->K3 E4 s1:=by
          intro ho E4 g3 g41;refine eX _ _ ?_;clear eX K3;refine jD (Ai @g3 (js i (by omega))) ?_;refine⟨⟨i+1,by omega,rfl,g41,?_,rfl⟩,?_⟩
          ·intro j hj;by_cases Hk:j<i
           ·exact fG j Hk
           ·obtain rfl:j=i:=(by omega);exact ho
          ·simp only[h3,dY,↓reduceIte];omega
         clear eX;have mq:¬AA u i->decide (cH.right ⟨k,m,y,p,u⟩)=false:=fun h=>oi false ⟨fun hr=>absurd ((zY.1 hr).2.2 i et) h,fun h=>by cases h⟩;by_cases q1:u[i]<0
         ·refine eB T.mixed [] (by kernel_rfl) ?_;intro K hK;refine jV (Ai @h3 (Ai @Wo (Ai @gC (Ai @dB (Ai @et (Ai @gO (decide_eq_true q1))))))) hK ?_;clear hK K;refine Ot ?_;refine eF ?_;simp only[dJ,dn];simp only[fX,fe,fq,iu,List.toList_toArray,↓eL];try simp only[UP,DF,Nc,↓reduceIte,DT]
          rw[mq (fun h=>by have:=qX et h;omega)];exact jW ⟨rfl,rfl⟩
         by_cases q2:31<u[i]
         ·refine eB T.mixed [] (by kernel_rfl) ?_;intro K hK;refine jV (Ai @h3 (Ai @Wo (Ai @gC (Ai @dB (Ai @et (Ai @gO (Ai (decide_eq_false q1) (decide_eq_true q2)))))))) hK ?_;clear hK K;refine Ot ?_;refine eF ?_;simp only[dJ,dn];simp only[fX,fe,fq,iu,List.toList_toArray,↓eL];try simp only[UP,DF,Nc,↓reduceIte,DT]
          rw[mq (fun h=>by have:=qX et h;omega)];exact jW ⟨rfl,rfl⟩
         by_cases q3:(0:Int)<(i:Int)
         ·have hj:i-1<u.length:=(by omega);have tM:gR .i64 (i:Int) 1=((i-1:Nat):Int):=(by rw[fD (by omega)];omega);have zC:=jt hj;have rK:(0:Int)<=((i-1:Nat):Int):=(by omega);by_cases q4:u[i]<=u[i-1]
          ·refine eB T.mixed [] (by kernel_rfl) ?_;intro K hK;refine jV (Ai @h3 (Ai @Wo (Ai @gC (Ai @dB (Ai @et (Ai @gO (Ai (decide_eq_false q1) (Ai (decide_eq_false q2) (Ai (decide_eq_true q3) (Ai @tM (Ai @rK (Ai @hj (Ai @zC (decide_eq_true q4)))))))))))))) hK ?_;clear hK K;refine Ot ?_;refine eF ?_;simp only[dJ,dn];simp only[fX,fe,fq,iu,List.toList_toArray,↓eL];try simp only[UP,DF,Nc,↓reduceIte,DT]
           rw[mq (fun h=>by have:=(qX et h).2.2 (by omega);omega)];exact jW ⟨rfl,rfl⟩
          ·refine eB T.mixed [] (by kernel_rfl) ?_;intro K hK;refine jV (Ai @h3 (Ai @Wo (Ai @gC (Ai @dB (Ai @et (Ai @gO (Ai (decide_eq_false q1) (Ai (decide_eq_false q2) (Ai (decide_eq_true q3) (Ai @tM (Ai @rK (Ai @hj (Ai @zC (decide_eq_false q4)))))))))))))) hK ?_;clear hK K;refine gW ?_;simp only[dn,dJ,if_true,if_false];exact mR (yQ et (by omega) (by omega) (fun _=>by omega)) _ h3 Wo
         ·refine eB T.mixed [] (by kernel_rfl) ?_;intro K hK;refine jV (Ai @h3 (Ai @Wo (Ai @gC (Ai @dB (Ai @et (Ai @gO (Ai (decide_eq_false q1) (Ai (decide_eq_false q2) (decide_eq_false q3))))))))) hK ?_;clear hK K;refine gW ?_;simp only[dn,dJ,if_true,if_false];exact mR (yQ et (by omega) (by omega) (fun q=>by omega)) _ h3 Wo
        ·refine jB (Ai @h3 (Ai @Wo (Ai @dB (decide_eq_false et)))) ?_;refine sI ?_;simp only[dJ,dn,if_true];refine hK _ _ ?_;clear hK eH K K2;refine wq ?_;refine jW ⟨?_,rfl⟩;rw[oi true ⟨fun _=>rfl,fun _=>zY.2 ⟨by omega,hh,fun j hj=>fG j (by omega)⟩⟩];try rfl
     ·refine jB (Ai @g1 (mw h2)) ?_;refine mS ?_;refine jW ⟨?_,rfl⟩;rw[oi false ⟨fun h=>absurd h (Du (N:=⟨k,m,y,p,u⟩) h0 h1 h2),fun h=>by cases h⟩];try rfl
   clear xy;rcases e3 with e3|e3
   ·refine jV (Ai @e3 (show(((0:Nat):Int) != 0)=false from rfl)) hK ?_;clear hK K;refine gW ?_;exact tB _ (by simp only[dY,Nc,↓reduceIte,e3])
   ·refine jV (Ai @e3 (Ai (show(((32:Nat):Int) != 0)=true from rfl) (show(((32:Nat):Int) != 32)=false from rfl))) hK ?_;clear hK K;refine gW ?_;exact tB _ (by simp only[dY,Nc,↓reduceIte,e3])
  ·have Tk:decide (cH.right ⟨k,m,y,p,u⟩)=false:=oi false ⟨fun h=>absurd (NP (N:=⟨k,m,y,p,u⟩) h0 h) hh,fun h=>by cases h⟩;by_cases e1:2<=(y:Int)∧(y:Int)<=2305843009213693949
   ·have e3:¬(p.length=0∨p.length=32):=fun e=>hh ⟨by simp only;omega,by simp only;omega,e⟩;rw[show(decide (2<=(y:Int))&&decide ((y:Int)<=2305843009213693949))=true from by simp;omega];refine jV (Ai (mw (show(p.length:Int)≠0 by omega)) (mw (show(p.length:Int)≠32 by omega))) hK ?_;clear hK K;refine mS ?_;rw[Tk];exact jW ⟨rfl,rfl⟩
   ·rw[show(decide (2<=(y:Int))&&decide ((y:Int)<=2305843009213693949))=false from by simp;omega];refine jR hK ?_;refine mS ?_;rw[Tk];exact jW ⟨rfl,rfl⟩
def iO(N:cH)(st:List UInt8×Bool):List UInt8×Bool:=if N.right then jY N.text st else(st.1,true)
theorem uA(N:cH)(hl:N.nS.length<=2^61)(s0 s:AS)(p:Nat)(st:List UInt8×Bool)(np:st.1.length+200<=2^45)(h:mK s0 s p st):
  dS prog Γ 236 [.ptr p 0,.agg N.cells] s (fun r s'=>r=.ka []∧mK s0 s' p (iO N st)):=by
 refine xH func236 ntmps236 results236 ?_;unfold cH.cells;obtain⟨k,m,y,pa,u⟩:=N;refine ev 3 (by simp[fT]) ?_;intro K hK;refine jN @ea.eq_1 ?_;intro o ho;refine hK _ _ o _ rfl ho ?_;clear hK K ho;refine UK fun K hK K hK=>?_;refine b6 (pW ⟨k,m,y,pa,u⟩ hl s) ?_;rintro r s' ⟨rfl,rfl⟩;have hlen:∀a,(jY a st).1.length<=st.1.length+a.length:=fun a=>Da a st;by_cases hr:cH.right ⟨k,m,y,pa,u⟩
 ·rw[dT hr];refine jR hK ?_;clear hK K;refine gW ?_;refine hK _ _ ?_;clear hK K;have Sw:iO ⟨k,m,y,pa,u⟩ st=jY (cH.text ⟨k,m,y,pa,u⟩) st:=if_pos hr;rw[Sw];rcases oN hr with hk|hk|hk
  ·simp only at hk;subst hk;refine jQ fun K hK=>?_;refine b6 (lX s0 s' p st ((0:Nat):Int) oM oM h) ?_;rintro r s1 ⟨rfl,q1⟩;rw[mf dM] at q1;refine jR hK ?_;clear hK K;refine wK fun K hK=>wS fun K hK=>?_;simp only[↓DN,Qa,Qb,Qc,Qd,Qe,Qf,Qg,Qh,seval,TT,dv];refine hK _ _ ?_;clear hK K;refine jE<|jI ?_;exact jW ⟨rfl,q1⟩
  ·obtain⟨h1,h2,⟨h3,h4,h5⟩,h6⟩:=(lk hk).1 hr;simp only at hk h1 h2 h3 h4 h5 h6;subst hk;refine jQ fun K hK=>?_;refine b6 (lX s0 s' p st ((1:Nat):Int) oM oM h) ?_;rintro r s1 ⟨rfl,q1⟩;rw[mf dM] at q1;refine jR hK ?_;clear hK K;refine wK fun K hK=>wS fun K hK=>?_;simp only[↓DN,Qa,Qb,Qc,Qd,Qe,Qf,Qg,Qh,seval,TT,dv];refine hK _ _ ?_;clear hK K;refine gW ?_;refine hK _ _ ?_;clear hK K;refine wK fun K hK=>wS fun K hK=>?_;simp only[↓DN,Qa,Qb,Qc,Qd,Qe,Qf,Qg,Qh,seval,TT,dv];refine hK _ _ ?_;clear hK K;refine jE<|jT fun K hK=>?_;refine b6 (lY s0 s1 p _ _ m (Fg.any m) (by have:=hlen (be 1 1);simp at this⊢;omega) q1) ?_;rintro r s2 ⟨rfl,q2⟩;rw[vq oM,lP] at q2;refine jR hK ?_;clear hK K;refine hK _ _ ?_;clear hK K;refine jQ fun K hK=>?_;refine b6 (ql s0 s2 p _ y oM (by refine cD (cJ (hlen _) _) ?_;simp;omega) q2) ?_;rintro r s3 ⟨rfl,q3⟩;rw[xz,lP] at q3;refine jR hK ?_;clear hK K;refine jQ fun K hK=>?_;refine b6 (lY s0 s3 p _ _ pa (Fg.any pa) (by refine cD (cJ (cJ (hlen _) _) _) ?_;simp;omega) q3) ?_;rintro r s4 ⟨rfl,q4⟩;rw[vq oM,lP] at q4;refine jR hK ?_;clear hK K;refine wS fun K hK=>?_;simp only[↓DN,Qa,Qb,Qc,Qd,Qe,Qf,Qg,Qh,seval,TT,dv];refine hK _ _ ?_;clear hK K;refine gW ?_;simp only[fX,fe,fq,iu,ah,↓eL];try simp only[UP,DF,Nc,↓reduceIte,DT]
   refine jW ⟨rfl,?_⟩;rw[show cH.text ⟨1,m,y,pa,u⟩=be 1 1++(be 1 m.length++m)++be 8 y++(be 1 pa.length++pa) from rfl];exact q4
  ·obtain⟨h1,⟨h3,h4,h5⟩,h6⟩:=(me hk).1 hr;simp only at hk h1 h3 h4 h5 h6;subst hk;have hu:=tF h6;refine jQ fun K hK=>?_;refine b6 (lX s0 s' p st ((2:Nat):Int) oM oM h) ?_;rintro r s1 ⟨rfl,q1⟩;rw[mf dM] at q1;refine jR hK ?_;clear hK K;refine wK fun K hK=>wS fun K hK=>?_;simp only[↓DN,Qa,Qb,Qc,Qd,Qe,Qf,Qg,Qh,seval,TT,dv];refine hK _ _ ?_;clear hK K;refine gW ?_;refine hK _ _ ?_;clear hK K;refine wK fun K hK=>wS fun K hK=>?_;simp only[↓DN,Qa,Qb,Qc,Qd,Qe,Qf,Qg,Qh,seval,TT,dv];refine hK _ _ ?_;clear hK K;refine gW ?_;refine hK _ _ ?_;clear hK K;refine jQ fun K hK=>?_;refine b6 (ql s0 s1 p _ y oM (by refine cD (cJ (hlen _) _) ?_;simp;omega) q1) ?_;rintro r s3 ⟨rfl,q3⟩;rw[xz,lP] at q3;refine jR hK ?_;clear hK K;refine jQ fun K hK=>?_;refine b6 (lY s0 s3 p _ _ pa (Fg.any pa) (by refine cD (cJ (cJ (hlen _) _) _) ?_;simp;omega) q3) ?_;rintro r s4 ⟨rfl,q4⟩;rw[vq oM,lP] at q4;refine jR hK ?_;clear hK K;refine wS fun K hK=>?_;simp only[↓DN,Qa,Qb,Qc,Qd,Qe,Qf,Qg,Qh,seval,TT,dv];refine hK _ _ ?_;clear hK K;refine jE<|jQ fun K hK=>?_;refine b6 (lX s0 s4 p _ (u.length:Int) oM (by refine cD (cJ (hlen _) _) ?_;simp;omega) q4) ?_;rintro r s5 ⟨rfl,q5⟩;rw[mf oM,lP] at q5;obtain⟨A,hA⟩:∃A,A=be 1 2++be 8 y++(be 1 pa.length++pa)++be 1 u.length:=⟨_,rfl⟩;have hAl:A.length<=50:=(by rw[hA];simp;omega);rw[<-hA] at q5;have htx:cH.text ⟨2,m,y,pa,u⟩=A++ko u:=(by rw[hA];rfl);refine jR hK ?_;clear hK K;refine xKl ?_;refine dU (fun E s2=>∃i:Nat,i<=u.length∧E 44=.v (.int .i64 i)∧E 43=.v (.int .i64 u.length)∧E 42=.sl 1 u.length (u.map ed) .any∧E 0=.ptr p 0∧mK s0 s2 p (jY (A++ko (u.take i)) st))
    (fun E _=>match E 44 with |.v (.int _ i)=>u.length-i.toNat|_=>0) ?_ ?_
   ·exact⟨0,aB _,rfl,rfl,rfl,by simp only[dY,eV,Nc,↓reduceIte,List.getD_cons_zero],by simpa[ko] using q5⟩
   ·rintro E1 s6 ⟨i,hi,g44,g43,g42,g0,q6⟩ -
    by_cases et:i<u.length
    ·refine jB (Ai @g44 (Ai @g43 (Ai @dB (dT et)))) ?_;refine Ja fun K2 eH=>?_;refine eH _ _<|nF fun K3 eX=>?_;have gC:(0:Int)<=(i:Int):=oM;have gO:=jt et;have hx:=xA h6 (bm et);refine jB (Ai @g44 (Ai @g42 (Ai @gC (Ai @dB (Ai @et @gO))))) ?_;refine jU @g0 fun K hK=>?_;have hxn:u[i]=((u[i]).toNat:Int):=oM;refine b6 (lX s0 s6 p _ u[i] oM (by refine cD (cJ (hlen _) _) ?_;simp[qg];omega) q6) ?_;rintro r s7 ⟨rfl,q7⟩;rw[hxn,mf oM,lP,List.append_assoc,<-wR,<-List.take_succ_eq_append_getElem et] at q7;refine jR hK ?_;clear hK K;simp only[dn,dJ,if_true,if_false];refine eX _ _<|jD (Ai @g44 (js i oM)) ?_;refine⟨⟨i+1,oM,rfl,g43,g42,g0,q7⟩,?_⟩;simp only[g44,dY,↓reduceIte];omega
    ·refine jB (Ai @g44 (Ai @g43 (Ai @dB (dF et)))) ?_;refine Jb fun K2 eH=>?_;simp only[dJ,dn,if_true];simp only[fX,fe,fq,iu,ah,↓eL];try simp only[UP,DF,Nc,↓reduceIte,DT]
     refine jW ⟨rfl,?_⟩;rw[ae oM] at q6;rw[htx];exact q6
 ·rw[dF hr];refine jR hK ?_;refine jE<|jQ fun K hK=>?_;refine b6 (lX s0 s' p st (-1) oM oM h) ?_;rintro r s1 ⟨rfl,q1⟩;refine jR hK ?_;refine jI ?_;refine jW ⟨rfl,?_⟩;rw[show iO ⟨k,m,y,pa,u⟩ st=eP 1 (-1) st from(if_neg hr).trans (if_neg oM).symm];exact q1
theorem rq(N:cH)(hr:N.right)(s:AS):dS prog Γ 211 [.agg N.cells] s (fun r s'=>r=.v (.string ⟨N.text.toArray⟩)∧s'=s):=by
 refine fm func211 rfl ntmps211 results211 (by simp) ?_;unfold cH.cells;obtain⟨k,m,y,pa,u⟩:=N;refine ev 1 (by simp[fT]) ?_;intro K hK;refine jN @ea.eq_1 ?_;intro o ho;refine hK _ _ o _ rfl ho ?_;clear hK K ho;refine wK fun K hK=>?_;rcases oN hr with hk|hk|hk
 ·simp only at hk;subst hk;refine wS fun K hK=>?_;simp only[↓DN,Qa,Qb,Qc,Qd,Qe,Qf,Qg,Qh,reduceCtorEq,↓reduceIte,Na,Nb,Nc,Nk,Nf,Ng,Nh,Za,Zb,Zc,TT,Int.reduceBEq];refine hK _ _ ?_;clear hK K;refine wC fun X Y hX hY=>?_;simp only[UP,DF,Nc,↓reduceIte,DB];refine hX ?_;clear hX hY X Y;refine wS fun K hK=>?_;refine jO ?_;refine hK _ _ ?_;clear hK K;refine eF ?_;simp only[fX,fe,fq,iu,List.toList_toArray,↓eL];try simp only[UP,DF,Nc,↓reduceIte,DT]
  exact jW ⟨rfl,rfl⟩
 ·obtain⟨h1,h2,⟨h3,h4,h5⟩,h6⟩:=(lk hk).1 hr;simp only at hk h1 h2 h3 h4 h5 h6;subst hk;refine wS fun K hK=>?_;simp only[↓DN,Qa,Qb,Qc,Qd,Qe,Qf,Qg,Qh,reduceCtorEq,↓reduceIte,Na,Nb,Nc,Nk,Nf,Ng,Nh,Za,Zb,Zc,TT,Int.reduceBEq];refine hK _ _ ?_;clear hK K;refine wC fun X Y hX hY=>?_;simp only[UP,DF,Nc,↓reduceIte,DB];refine hY ?_;clear hX hY X Y;refine dX ?_;refine hK _ _ ?_;clear hK K;refine eB T.mixed [2,6] (by kernel_rfl) ?_;intro K hK;refine jM ?_;refine b6 (fU y 8 (by omega) (by omega) s) ?_;rintro r s' ⟨rfl,rfl⟩;refine jM ?_;refine b6 (ln pa 1 (by omega) (by omega) _) ?_;rintro r s' ⟨rfl,rfl⟩;refine jN (Ai @ga (eS (show 8+(1+pa.length)<2^62 by omega))) ?_;refine hK _ _ ?_;clear hK K;refine wK fun K hK=>?_;refine wS fun K hK=>?_;simp only[↓DN,Qa,Qb,Qc,Qd,Qe,Qf,Qg,Qh,reduceCtorEq,↓reduceIte,Na,Nb,Nc,Nk,Nf,Ng,Nh,Za,Zb,Zc,TT,Int.reduceBEq];refine hK _ _ ?_;clear hK K;refine wC fun X Y hX hY=>?_;simp only[UP,DF,Nc,↓reduceIte,DB];refine hX ?_;clear hX hY X Y;refine wS fun K hK=>?_;refine jO ?_;refine b6 (ln m 1 (by omega) (by omega) _) ?_;rintro r s' ⟨rfl,rfl⟩;refine jN (Ai @ga (Ai (eS (show 1+(1+m.length)<2^62 by omega)) (Ai (eS (show(1+m.length)+1<2^62 by omega)) (Ai (eS (show 1+(1+m.length)+(8+(1+pa.length))<2^62 by omega)) (eS (show(1+m.length)+1+(8+(1+pa.length))<2^62 by omega)))))) ?_;refine hK _ _ ?_;clear hK K;refine eF ?_;simp only[fX,fe,fq,iu,List.toList_toArray,↓eL];try simp only[UP,DF,Nc,↓reduceIte,DT]
  refine jW ⟨?_,rfl⟩;simp[cH.text,be];rfl
 ·obtain⟨h1,⟨h3,h4,h5⟩,h6⟩:=(me hk).1 hr;simp only at hk h1 h3 h4 h5 h6;subst hk;have hu:=tF h6;refine wS fun K hK=>?_;simp only[↓DN,Qa,Qb,Qc,Qd,Qe,Qf,Qg,Qh,reduceCtorEq,↓reduceIte,Na,Nb,Nc,Nk,Nf,Ng,Nh,Za,Zb,Zc,TT,Int.reduceBEq];refine hK _ _ ?_;clear hK K;refine wC fun X Y hX hY=>?_;simp only[UP,DF,Nc,↓reduceIte,DB];refine hY ?_;clear hX hY X Y;refine dX ?_;refine hK _ _ ?_;clear hK K;refine eB T.mixed [2,6] (by kernel_rfl) ?_;intro K hK;refine jM ?_;refine b6 (fU y 8 (by omega) (by omega) s) ?_;rintro r s' ⟨rfl,rfl⟩;refine jM ?_;refine b6 (ln pa 1 (by omega) (by omega) _) ?_;rintro r s' ⟨rfl,rfl⟩;refine jN (Ai @ga (eS (show 8+(1+pa.length)<2^62 by omega))) ?_;refine hK _ _ ?_;clear hK K;refine wK fun K hK=>?_;refine wS fun K hK=>?_;simp only[↓DN,Qa,Qb,Qc,Qd,Qe,Qf,Qg,Qh,reduceCtorEq,↓reduceIte,Na,Nb,Nc,Nk,Nf,Ng,Nh,Za,Zb,Zc,TT,Int.reduceBEq];refine hK _ _ ?_;clear hK K;refine wC fun X Y hX hY=>?_;simp only[UP,DF,Nc,↓reduceIte,DB];refine hY ?_;clear hX hY X Y;refine dX ?_;refine hK _ _ ?_;clear hK K;refine wS fun K hK=>?_;refine jP (Ai @ga (Ai (eS (show 1+(8+(1+pa.length))<2^62 by omega)) (Ai (eS (show(8+(1+pa.length))+1<2^62 by omega)) (yD (show u.length<2^62 by omega))))) ?_;refine b6 (fU u.length 1 (by omega) (by omega) _) ?_;rintro r s' ⟨rfl,rfl⟩;refine jN (Ai @ga (Ai (eS (show 1+(8+(1+pa.length))+1<2^62 by omega)) (eS (show(8+(1+pa.length))+1+1<2^62 by omega)))) ?_;refine hK _ _ ?_;clear hK K;refine wK fun K hK=>?_;refine wS fun K hK=>?_;refine jO ?_;refine hK _ _ ?_;clear hK K;refine dH ?_;obtain⟨A,hA⟩:∃A,A=2::(be 8 y++(be 1 pa.length++(pa++be 1 u.length))):=⟨_,rfl⟩;have hAl:A.length<=50:=(by rw[hA];simp;omega);have htx:cH.text ⟨2,m,y,pa,u⟩=A++ko u:=(by rw[hA];simp[cH.text,be]);refine dU (fun E s2=>∃i:Nat,i<=u.length∧E 5=.v (.int .i64 i)∧E 4=.v (.string ⟨(A++ko (u.take i)).toArray⟩)∧E 1=.ij [.v (.int .i64 2),.sl 1 m.length (m.map cU) .any,.v (.int .u64 y),.sl 1 pa.length (pa.map cU) .any,.sl 1 u.length (u.map ed) .any]∧s2=s')
   (fun E _=>match E 5 with |.v (.int _ i)=>u.length-i.toNat|_=>0) ?_ ?_
  ·exact⟨0,Nat.zero_le _,rfl,by simp only[dY,Nc,↓reduceIte,hA,ko,List.take_zero,List.map_nil,List.flatten_nil,List.append_nil],rfl,rfl⟩
  ·rintro E1 s6 ⟨i,hi,g5,g4,g1,rfl⟩ -
   refine wK fun K2 eH=>?_;by_cases et:i<u.length
   ·refine wS fun K hK=>?_;refine jP (Ai @g5 (Ai @g1 (Ai @dB (decide_eq_true et)))) ?_;refine hK _ _ ?_;clear hK K;refine wC fun X Y hX hY=>?_;simp only[UP,DF,Nc,↓reduceIte,DB];refine hX ?_;clear hX hY X Y;refine dX ?_;refine eH _ _ ?_;clear eH K2;refine wK fun K3 eX=>?_;refine dH ?_;have gC:(0:Int)<=(i:Int):=(by omega);have gO:=jt et;have hx:=xA h6 (List.getElem_mem et);have hcv:gq .u64 u[i]=((u[i].toNat:Nat):Int):=by
     have e:u[i]=((u[i].toNat:Nat):Int):=(by omega);rw[e];exact yD (by omega)
    refine wE fun K hK=>?_;refine jP (Ai @g5 (Ai @g4 (Ai @g1 (Ai @gC (Ai @dB (Ai @et (Ai @gO @hcv))))))) ?_;refine b6 (fU u[i].toNat 1 (by omega) (by omega) _) ?_;rintro r s7 ⟨rfl,rfl⟩;refine jN (Ai @ga (eS (show A.length+(ko (u.take i)).length+1<2^62 by rw[qg,List.length_take];omega))) ?_;refine hK _ _ ?_;clear hK K;simp only[dn,dJ,if_true,if_false];refine eX _ _ ?_;clear eX K3;refine wE fun K hK=>?_;refine jP (Ai @g5 (js i (by omega))) ?_;refine hK _ _ ?_;clear hK K;refine⟨⟨i+1,by omega,rfl,by simp only[dY,Nc,↓reduceIte];rw[List.take_succ_eq_append_getElem et,wR],g1,rfl⟩,?_⟩;simp only[g5,dY,↓reduceIte];omega
   ·refine wS fun K hK=>?_;refine jP (Ai @g5 (Ai @g1 (Ai @dB (decide_eq_false et)))) ?_;refine hK _ _ ?_;clear hK K;refine wC fun X Y hX hY=>?_;simp only[UP,DF,Nc,↓reduceIte,DB];refine hY ?_;clear hX hY X Y;refine ep ?_;simp only[dJ,dn,if_true];refine hK _ _ ?_;clear hK eH K K2;refine wS fun K hK=>?_;refine jP @g4 ?_;refine hK _ _ ?_;clear hK K;refine eF ?_;simp only[fX,fe,fq,iu,List.toList_toArray,↓eL];try simp only[UP,DF,Nc,↓reduceIte,DT]
    refine jW ⟨?_,rfl⟩;rw[List.take_of_length_le (by omega),htx]
theorem tS(t:List cH)(ht:t.length<=2^61)(s:AS):aI prog Γ 104 [eA t] s (.v (.int .i64 (ee t))):=by
 refine xH func104 ntmps104 results104 ?_;have e0:nn .i64 (iY .i64 (t.length:Int) 1) 2=((((t.length+1)/2:Nat)):Int):=(by rw[eK _ oM,iI _ oM]);obtain⟨h,hh⟩:∃h,h=(t.length+1)/2:=⟨_,rfl⟩;rw[<-hh] at e0;unfold eA;refine jA ?_;refine jB @e0 ?_;refine UK fun K hK K hK=>?_;refine b6 (yR h _) ?_;rintro r s1 ⟨rfl,rfl⟩;by_cases hf:Fit h
 ·have hf':=hf.le;rw[dT (sJ.2 hf)];refine jM ?_;refine b6 (wU h _) ?_;rintro r s2 ⟨rfl,rfl⟩;rw[J9 hf];by_cases hw:t.length=2*h-1
  ·have hl:ee t=h:=(by unfold ee;rw[<-hh];exact if_pos ⟨hf,hw⟩);refine jV (ug hw) hK ?_;clear hK K;refine gW ?_;refine hK _ _ ?_;clear hK K;refine wq ?_;rw[hl];exact jW ⟨rfl,rfl⟩
  ·have hl:ee t=0:=(by unfold ee;rw[<-hh];exact if_neg (fun k=>hw k.2));refine jV (Bz hw) hK ?_;clear hK K;refine mS ?_;rw[hl];exact jW ⟨rfl,rfl⟩
 ·have hl:ee t=0:=(by unfold ee;rw[<-hh];exact if_neg (fun k=>hf k.1));rw[dF (fun k=>hf (sJ.1 k))];refine jR hK ?_;refine mS ?_;rw[hl];exact jW ⟨rfl,rfl⟩
theorem qu(t:List cH)(ht:t.length<=2^61)(i:Int)(s:AS):aI prog Γ 142 [eA t,.v (.int .i64 i)] s (.v (.bool (decide (j0 t i)))):=by
 refine xH func142 ntmps142 results142 ?_;have tT:=fun s=>tS (Γ:=Γ) t ht s;unfold eA at tT⊢;refine jA ?_;by_cases h0:0<=i
 ·refine jS (dT h0) fun K hK=>?_;refine b6 (tT _) ?_;rintro r s1 ⟨rfl,rfl⟩;by_cases h1:i<(ee t:Int)
  ·obtain⟨n,rfl⟩:=Int.eq_ofNat_of_zero_le h0;have hn:n<ee t:=oM;have hn2:=SE hn;have hlv:=Ia t;have gO:=gL hn2;have hk:decide (j0 t (n:Int))=((nd t (2*n)).kind==1):=by
    rw[bW,decide_eq_true_iff,beq_iff_eq];unfold j0;rw[Int.toNat_natCast];exact⟨fun k=>k.2.2,fun k=>⟨h0,h1,k⟩⟩
   generalize nd t (2*n)=N at *
   generalize eb cH.cells t=X at *
   obtain⟨k,nm,y,pa,u⟩:=N;unfold cH.cells at gO;have gC:(0:Int)<=((2*n:Nat):Int):=oM;refine jV (Ai (dT h1) (Ai (dT hn) (Ai (fp n oM) (Ai @dB (Ai @hn2 (Ai @gC @gO)))))) hK ?_;clear hK K;refine jI ?_;rw[hk];exact jW ⟨rfl,rfl⟩
  ·have hk:decide (j0 t i)=false:=dF fun k=>h1 k.2.1;refine jV (dF h1) hK ?_;refine jI ?_;rw[hk];exact jW ⟨rfl,rfl⟩
 ·have hk:decide (j0 t i)=false:=dF fun k=>h0 k.1;refine jB (dF h0) ?_;refine jI ?_;rw[hk];exact jW ⟨rfl,rfl⟩
theorem FM(t:List cH)(ht:t.length<=2^61)(a k:Nat)(hak:a+k<2^61)(s:AS):aI prog Γ 144 [eA t,.v (.int .i64 a),.v (.int .i64 (((a+k:Nat):Int)-1))] s (.v (.int .i64 (mr (j0 t) a k))):=by
 refine xH func144 ntmps144 results144 ?_;have hm:=fun i s=>qu (Γ:=Γ) t ht i s;unfold eA at hm⊢;generalize eb cH.cells t=X at *
 refine UL fun K hK=>?_;refine dU (fun E s2=>∃i:Nat,i<=k∧E 8=.v (.int .i64 ((a+i:Nat):Int))∧E 7=.v (.int .i64 (mr (j0 t) a i))∧E 0=.sl 5 t.length X .any∧E 2=.v (.int .i64 (((a+k:Nat):Int)-1))∧s2=s)
  (fun E _=>match E 8 with |.v (.int _ i)=>a+k-i.toNat|_=>0) ?_ ?_
 ·exact⟨0,aB _,rfl,rfl,rfl,rfl,rfl⟩
 ·rintro E1 s2 ⟨i,hi,g8,g7,g0,g2,rfl⟩ -
  refine wK fun K2 eH=>?_;by_cases et:i<k
  ·have h1:decide (((a+i:Nat):Int)<=((a+k:Nat):Int)-1)=true:=dT oM;refine jB (Ai @g8 (Ai @g2 @h1)) ?_;refine ue ?_;refine eH _ _<|nF fun K3 eX=>?_;have fu:∀(E:Env),E 8=.v (.int .i64 ((a+i:Nat):Int))->E 7=.v (.int .i64 (mr (j0 t) a (i+1)))->E 0=.sl 5 t.length X .any->E 2=.v (.int .i64 (((a+k:Nat):Int)-1))->K3 E s2:=by
    intro E f8 f7 f0 f2;refine eX _ _ ?_;clear eX K3;refine jD (Ai @f8 (eK (a+i) oM)) ?_;refine⟨⟨i+1,et,rfl,f7,f0,f2,rfl⟩,?_⟩;simp only[g8,dY,↓reduceIte];omega
   clear eX;refine jS (Ai @g0 @g8) fun K hK=>?_;refine b6 (hm _ _) ?_;rintro r s3 ⟨rfl,rfl⟩;have hc:=Iq (j0 t) a i;by_cases hp:j0 t ((a+i:Nat):Int)
   ·rw[dT hp];refine jR hK ?_;clear hK K;refine jE<|jD (Ai @g7 (eK (mr (j0 t) a i) oM)) ?_;refine fu _ g8 ?_ g0 g2;have :mr (j0 t) a (i+1)=mr (j0 t) a i+1:=(by simp only[mr];rw[if_pos hp]);rw[this];simp only[dY,Nc,↓reduceIte]
   ·rw[dF hp];refine jR hK ?_;clear hK K;refine gW ?_;refine fu _ g8 ?_ g0 g2;have :mr (j0 t) a (i+1)=mr (j0 t) a i:=(by simp only[mr];rw[if_neg hp];omega);rw[this];simp only[dY,g7,Nc,↓reduceIte]
  ·have h1:decide (((a+i:Nat):Int)<=((a+k:Nat):Int)-1)=false:=dF oM;refine jB (Ai @g8 (Ai @g2 @h1)) ?_;refine sI ?_;simp only[dJ,dn,if_true];refine hK _ _ ?_;obtain rfl:i=k:=oM;refine jB @g7 ?_;exact jJ
theorem FN(t:List cH)(ht:t.length<=2^61)(name:List UInt8)(a:Nat)(ha:a<=2^60)(s:AS):aI prog Γ 143 [eA t,dm name .any,.v (.int .i64 a)] s (.v (.int .i64 (tR t name a))):=by
 refine xH func143 ntmps143 results143 ?_;have hm:=fun i s=>qu (Γ:=Γ) t ht i s;have gO:=fun i(h:i<t.length)=>gL (t:=t) h;obtain⟨Q,hQ⟩:∃Q:Nat->Bool,Q=fun(j:Nat)=>decide (j0 t (j:Int)∧(nd t (2*j)).name=name):=⟨_,rfl⟩;have iz:tR t name a=fZ Q (kS t-a) a:=(by rw[hQ];rfl);unfold eA at hm⊢;generalize eb cH.cells t=X at *
 refine Q2 fun K hK=>?_;refine dU (fun E s2=>∃i:Nat,i<=2^61∧a<=i∧fZ Q (kS t-i) i=fZ Q (kS t-a) a∧E 7=.v (.int .i64 i)∧E 0=.sl 5 t.length X .any∧E 1=.sl 1 name.length (name.map cU) .any∧s2=s)
  (fun E _=>match E 7 with |.v (.int _ i)=>kS t-i.toNat|_=>0) ?_ ?_
 ·exact⟨a,oM,ax _,rfl,rfl,rfl,rfl,rfl⟩
 ·rintro E1 s2 ⟨i,hi,hai,hf,g7,g0,g1,rfl⟩ -
  refine wK fun K2 eH=>?_;by_cases et:i<kS t
  ·have kR:2*i<t.length:=Ef.1 et;refine jB (Ai @g7 (Ai @g0 (Ai (fp i oM) (Ai @dB (dT kR))))) ?_;refine ue ?_;refine eH _ _<|nF fun K3 eX=>?_;obtain⟨k,hk⟩:∃k,kS t-i=k+1:=⟨kS t-i-1,oM⟩;have sC:kS t-(i+1)=k:=oM;rw[hk] at hf;have EU:Q i=decide (j0 t i∧(nd t (2*i)).name=name):=(by rw[hQ]);have fu:∀(E:Env),Q i=false->E 7=.v (.int .i64 i)->E 0=.sl 5 t.length X .any->E 1=.sl 1 name.length (name.map cU) .any->K3 E s2:=by
    intro E hq f7 f0 f1;refine eX _ _ ?_;clear eX K3;refine jD (Ai @f7 (eK i oM)) ?_;refine⟨⟨i+1,oM,oM,by rw[sC,<-hf,pA hq],rfl,f0,f1,rfl⟩,?_⟩;simp only[g7,dY,↓reduceIte];omega
   clear eX;have ou:=gO (2*i) kR;generalize nd t (2*i)=N at *
   obtain⟨nk,nm,ny,pH,nu⟩:=N;unfold cH.cells at ou;simp only at EU;have gC:(0:Int)<=((2*i:Nat):Int):=oM;refine jS (Ai @g0 @g7) fun K hK=>?_;refine b6 (hm _ _) ?_;rintro r s3 ⟨rfl,rfl⟩;by_cases hp:j0 t (i:Int)
   ·rw[dT hp];refine jN (Ai @g0 (Ai @g7 (Ai @g1 (Ai (fp i oM) (Ai @dB (Ai @kR (Ai @gC @ou))))))) ?_;refine b6 (iq nm name _) ?_;rintro r s4 ⟨rfl,rfl⟩;by_cases hn:nm=name
    ·rw[dT hn];rw[dT ⟨hp,hn⟩] at EU;refine jR hK ?_;clear hK K;refine jE<|jB @g7 ?_;refine jI ?_;rw[iz,<-hf,pz EU];exact jW ⟨rfl,rfl⟩
    ·rw[dF hn];rw[dF (fun q=>hn q.2)] at EU;refine jR hK ?_;clear hK K;refine gW ?_;exact fu _ EU g7 g0 g1
   ·rw[dF hp];rw[dF (fun q=>hp q.1)] at EU;refine jR hK ?_;clear hK K;refine gW ?_;exact fu _ EU g7 g0 g1
  ·have kR:¬2*i<t.length:=fun h=>et (Ef.2 h);refine jB (Ai @g7 (Ai @g0 (Ai (fp i oM) (Ai @dB (dF kR))))) ?_;refine sI ?_;simp only[dJ,dn,if_true];refine hK _ _ ?_;rw[show kS t-i=0 by omega] at hf;refine wq ?_;rw[iz,<-hf];exact jW ⟨rfl,rfl⟩
theorem uo(l:List Int)(hl:l.length<=2^61)(k:FuncId)(hk:b7 prog k=true)(gh:List AV)(P:Int->Bool)
  (hP:∀x∈l,∀s,dS prog Γ k (.v (.int .i64 x)::gh) s (fun r s'=>r=.v (.bool (P x))∧s'=s)) (s:AS):
  aI prog Γ 71 [ea l .any,.wm k gh] s (.v (.int .i64 (fZ (fun i=>P (l.getD i 0)) l.length 0))):=by
 refine xH func71 ntmps71 results71 ?_;obtain⟨Q,hQ⟩:∃Q:Nat->Bool,Q=fun i=>P (l.getD i 0):=⟨_,rfl⟩;rw[<-hQ];unfold ea;refine Q2 fun K hK=>?_;refine dU (fun E s2=>∃i:Nat,i<=l.length∧fZ Q (l.length-i) i=fZ Q l.length 0∧E 8=.v (.int .i64 i)∧E 7=.v (.int .i64 l.length)∧E 0=.sl 1 l.length (l.map ed) .any∧E 1=.wm k gh∧s2=s)
  (fun E _=>match E 8 with |.v (.int _ i)=>l.length-i.toNat|_=>0) ?_ ?_
 ·exact⟨0,aB _,rfl,rfl,rfl,rfl,rfl,rfl⟩
 ·rintro E1 s2 ⟨i,hi,hf,g8,g7,g0,g1,rfl⟩ -
  by_cases et:i<l.length
  ·refine jB (Ai @g8 (Ai @g7 (Ai @dB (dT et)))) ?_;refine Ja fun K2 eH=>?_;refine eH _ _<|nF fun K3 eX=>?_;have EU:Q i=P l[i]:=(by rw[hQ];simp[List.getD,et]);have hc:=hP l[i] (bm et) s2;rw[<-EU] at hc;obtain⟨k',LO⟩:∃k',l.length-i=k'+1:=⟨l.length-i-1,oM⟩;have I5:l.length-(i+1)=k':=oM;rw[LO] at hf;have gO:=jt et;have gC:(0:Int)<=(i:Int):=oM;refine jB @g8 ?_;refine jS (Ai @g1 (Ai @g0 (Ai @dB (Ai @et (Ai @gC @gO))))) fun K hK=>?_;refine⟨hk,?_⟩;refine b6 hc ?_;rintro r s3 ⟨rfl,rfl⟩;cases hq:Q i with
   |true=>
    refine jR hK ?_;clear hK K;refine mS ?_;rw[<-hf,pz hq];exact jW ⟨rfl,rfl⟩
   |false=>
    refine jR hK ?_;clear hK K;refine gW ?_;simp only[dn,dJ,if_true,if_false];refine eX _ _<|jD (Ai @g8 (eK i oM)) ?_;refine⟨⟨i+1,oM,by rw[I5,<-hf,pA hq],rfl,g7,g0,g1,rfl⟩,?_⟩;simp only[g8,dY,↓reduceIte];omega
  ·refine jB (Ai @g8 (Ai @g7 (Ai @dB (dF et)))) ?_;refine Jb fun K2 eH=>?_;simp only[dJ,dn,if_true];refine hK _ _ ?_;rw[show l.length-i=0 by omega] at hf;refine wq ?_;rw[<-hf];exact jW ⟨rfl,rfl⟩
theorem xW(l:List Int)(hl:l.length<=2^61)(k:FuncId)(hk:b7 prog k=true)(gh:List AV)(P:Int->Bool)
  (hP:∀x∈l,∀s,dS prog Γ k (.v (.int .i64 x)::gh) s (fun r s'=>r=.v (.bool (P x))∧s'=s)) (s:AS):
  aI prog Γ 179 [ea l .any,.wm k gh] s (.v (.bool (l.any P))):=by
 refine xH func179 ntmps179 results179 ?_;have hc:=fun s=>uo (Γ:=Γ) l hl k hk gh P hP s;have ha:=Eg P l;generalize fZ (fun i=>P (l.getD i 0)) l.length 0=n at *
 refine jA ?_;refine jK (hc _) ?_;rintro s1 rfl;refine jI ?_;rw[<-ha];exact jW ⟨rfl,rfl⟩
theorem KY:b7 prog 178=true:=kM
def rr(t:List cH)(a b:Int)(u:Int):Bool:=decide (u<a)||(decide (b<u)|| !decide (j0 t u))
theorem FO(t:List cH)(ht:t.length<=2^61)(a b u:Int)(s:AS):aI prog Γ 178 [.v (.int .i64 u),.ij [.v (.int .i64 a)],.ij [.v (.int .i64 b)],.ij [eA t]] s (.v (.bool (rr t a b u))):=by
 refine xH func178 ntmps178 results178 ?_;have hm:=fun i s=>qu (Γ:=Γ) t ht i s;unfold eA at hm⊢;generalize eb cH.cells t=X at *
 unfold rr;refine jA ?_;by_cases h1:u<a
 ·have hr:(decide (u<a)||(decide (b<u)|| !decide (j0 t u)))=true:=(by rw[dT h1];rfl);refine jB (dT h1) ?_;refine jI ?_;rw[hr];exact jW ⟨rfl,rfl⟩
 ·by_cases h2:b<u
  ·have hr:(decide (u<a)||(decide (b<u)|| !decide (j0 t u)))=true:=(by rw[dT h2,dF h1];rfl);refine jB (Ai (dF h1) (dT h2)) ?_;refine jI ?_;rw[hr];exact jW ⟨rfl,rfl⟩
  ·have hr:(decide (u<a)||(decide (b<u)|| !decide (j0 t u)))= !decide (j0 t u):=(by rw[dF h2,dF h1];rfl);refine jS (Ai (dF h1) (dF h2)) fun K hK=>?_;refine b6 (hm _ _) ?_;rintro r s1 ⟨rfl,rfl⟩;refine jR hK ?_;refine jI ?_;rw[hr];exact jW ⟨rfl,rfl⟩
theorem Iz(hG:Γ 3=lQ.map uU)(t:List cH)(ht:iD t)(i:Nat)(hi:i<t.length)(s:AS):aI prog Γ 141 [eA t,.v (.int .i64 i)] s (.v (.bool (decide (vH t i)))):=by
 refine xH func141 ntmps141 results141 ?_;have hun:=fun s=>wT (Γ:=Γ) hG (i:Int) s;obtain⟨a,ha⟩:∃a,a=(pr (i:Int)).1:=⟨_,rfl⟩;obtain⟨b,hb⟩:∃b,b=(pr (i:Int)).2:=⟨_,rfl⟩;rw[<-ha,<-hb] at hun;have hfo:=fun u s=>FO (Γ:=Γ) t ht.1 a b u s;have gO:=gL hi;have hN:=ht.nd i;have fN:vH t i↔(nd t i).right∧((nd t i).kind=0∨((nd t i).kind=1↔i%2=0))∧((nd t i).nS.any (rr t a b))=false:=by
  unfold vH;rw[<-ha,<-hb];simp only[List.any_eq_false,rr,cp,decide_eq_true_eq,Bool.not_eq_true',decide_eq_false_iff_not,not_or,Int.not_lt,Decidable.not_not]
 have Tk:=fun s=>pW (Γ:=Γ) (nd t i) hN.1 s;have hcf:=fun s=>xW (Γ:=Γ) (nd t i).nS hN.1 _ KY [.ij [.v (.int .i64 a)],.ij [.v (.int .i64 b)],.ij [eA t]] (rr t a b) (fun x _ s=>hfo x s) s;have NQ:decide (vH t i)=(decide (nd t i).right&&(((nd t i).kind==0||(((nd t i).kind==1)==(i%2==0)))&& !((nd t i).nS.any (rr t a b)))):=by
  rw[bW,decide_eq_true_iff,fN];simp only[Bool.and_eq_true,decide_eq_true_eq,cp,beq_iff_eq,Bool.not_eq_true',Bool.beq_eq_decide_eq];constructor
  ·rintro⟨x,y,z⟩;exact⟨x,y.imp id (fun q=>by rw[bW,decide_eq_true_iff,decide_eq_true_iff];exact q),z⟩
  ·rintro⟨x,y,z⟩;exact⟨x,y.imp id (fun q=>by rw[bW,decide_eq_true_iff,decide_eq_true_iff] at q;exact q),z⟩
 clear fN;generalize List.any (nd t i).nS (rr t a b)=F at *
 unfold eA at hcf⊢;generalize eb cH.cells t=X at *
 clear hfo;generalize decide (vH t i)=Wp at *
 generalize decide (nd t i).right=RT at *
 generalize nd t i=N at *
 obtain⟨nk,nm,ny,pH,nu⟩:=N;unfold cH.cells at gO Tk;simp only at NQ hcf;unfold ea at hcf gO Tk;have gC:(0:Int)<=(i:Int):=oM;have et:i<t.length:=hi;refine ev 2 dM ?_;intro K hK;refine jM ?_;intro o1 h1;refine hK _ _ o1 _ rfl h1 ?_;clear hK K h1;refine ev 5 dM ?_;intro K hK;refine jN (Ai @dB (Ai @et (Ai @gC @gO))) ?_;intro o1 h1;refine hK _ _ o1 _ rfl h1 ?_;clear hK K h1;refine nQ 6 7 dM dM dM ?_;intro K hK;refine jM ?_;refine b6 (hun _) ?_;rintro r s1 ⟨rfl,rfl⟩;refine jM ?_;intro o1 yp o2 tj;have gP:o1≠o2:=(by rintro rfl;simp at tj);have Aa:=gP.symm;simp only[gP,Aa,if_true,if_false,↓reduceIte,List.set_cons_zero,List.set_cons_succ,List.length_cons,List.length_nil,Nat.reduceAdd,ax,true_and];rw[J1 gP];refine hK _ _ o1 o2 _ _ rfl rfl yp (by rw[AS.cO _ Aa];simpa[Aa] using tj) ?_;clear hK K yp tj gP Aa;refine jA ?_;have vR:mG (i:Int) 2=((i%2:Nat):Int):=mI i 2;have bb:((true==true)=true∧(false==false)=true)∧((true==false)=false∧(false==true)=false):=⟨⟨rfl,rfl⟩,rfl,rfl⟩;cases RT with
 |false=>
  refine jK (Tk _) ?_;rintro s2 rfl;refine jI ?_;rw[NQ];exact jW ⟨rfl,rfl⟩
 |true=>
  by_cases k0:nk=0
  ·have t0:=qZ k0;refine jQ fun K hK=>?_;refine b6 (Tk _) ?_;rintro r s2 ⟨rfl,rfl⟩;simp only[↓DM,eZ,DX,↓DN,Qa,Qb,Qc,Qd,Qe,Qf,Qg,Qh,seval,TT,t0];refine b6 (hcf _) ?_;rintro r s3 ⟨rfl,rfl⟩;refine jR hK ?_;refine jI ?_;have UW:(true&&((nk==0||((nk==1)==(i%2==0)))&& !F))= !F:=(by rw[t0];cases F<;>rfl);rw[NQ,UW];exact jW ⟨rfl,rfl⟩
  ·have t0:=pt k0;by_cases k1:nk=1
   ·have t1:=qZ k1;by_cases kp:i%2=0
    ·have t2:(mG (i:Int) 2==0)=true:=(by rw[vR];exact qZ oM);have t3:(i%2==0)=true:=(by simpa using kp);have UW:(true&&((nk==0||((nk==1)==(i%2==0)))&& !F))= !F:=(by rw[t0,t1,t3];cases F<;>rfl);refine jQ fun K hK=>?_;refine b6 (Tk _) ?_;rintro r s2 ⟨rfl,rfl⟩;simp only[↓DM,eZ,DX,↓DN,Qa,Qb,Qc,Qd,Qe,Qf,Qg,Qh,seval,TT,t0,t1,qh,t2,bb];refine b6 (hcf _) ?_;rintro r s3 ⟨rfl,rfl⟩;refine jR hK ?_;refine jI ?_;rw[NQ,UW];exact jW ⟨rfl,rfl⟩
    ·have t2:(mG (i:Int) 2==0)=false:=(by rw[vR];exact pt oM);have t3:(i%2==0)=false:=(by simpa using kp);have UW:(true&&((nk==0||((nk==1)==(i%2==0)))&& !F))=false:=(by rw[t0,t1,t3];cases F<;>rfl);refine jQ fun K hK=>?_;refine b6 (Tk _) ?_;rintro r s2 ⟨rfl,rfl⟩;simp only[↓DM,eZ,DX,↓DN,Qa,Qb,Qc,Qd,Qe,Qf,Qg,Qh,seval,TT,t0,t1,qh,t2,bb];refine hK _ _<|jI ?_;rw[NQ,UW];exact jW ⟨rfl,rfl⟩
   ·have t1:=pt k1;by_cases kp:i%2=0
    ·have t2:(mG (i:Int) 2==0)=true:=(by rw[vR];exact qZ oM);have t3:(i%2==0)=true:=(by simpa using kp);have UW:(true&&((nk==0||((nk==1)==(i%2==0)))&& !F))=false:=(by rw[t0,t1,t3];cases F<;>rfl);refine jQ fun K hK=>?_;refine b6 (Tk _) ?_;rintro r s2 ⟨rfl,rfl⟩;simp only[↓DM,eZ,DX,↓DN,Qa,Qb,Qc,Qd,Qe,Qf,Qg,Qh,seval,TT,t0,t1,qh,t2,bb];refine hK _ _<|jI ?_;rw[NQ,UW];exact jW ⟨rfl,rfl⟩
    ·have t2:(mG (i:Int) 2==0)=false:=(by rw[vR];exact pt oM);have t3:(i%2==0)=false:=(by simpa using kp);have UW:(true&&((nk==0||((nk==1)==(i%2==0)))&& !F))= !F:=(by rw[t0,t1,t3];cases F<;>rfl);refine jQ fun K hK=>?_;refine b6 (Tk _) ?_;rintro r s2 ⟨rfl,rfl⟩;simp only[↓DM,eZ,DX,↓DN,Qa,Qb,Qc,Qd,Qe,Qf,Qg,Qh,seval,TT,t0,t1,qh,t2,bb];refine b6 (hcf _) ?_;rintro r s3 ⟨rfl,rfl⟩;refine jR hK ?_;refine jI ?_;rw[NQ,UW];exact jW ⟨rfl,rfl⟩
end Go.Proofs.YtbiefppedlodiaaGreatDoor
