/- Contracts of functions, each walked once; each theorem states its conditions. -/
import Derived.Test.YtbiefppedlodiaaGreatDoorAMp6
import Derived.Test.YtbiefppedlodiaaGreatDoorW1
import Derived.Test.YtbiefppedlodiaaGreatDoorW5
import Derived.Test.YtbiefppedlodiaaGreatDoorW4
import Derived.Test.YtbiefppedlodiaaGreatDoorW2
import Derived.Test.YtbiefppedlodiaaGreatDoorAMp7
import Derived.Test.YtbiefppedlodiaaGreatDoorW3
import Derived.Test.YtbiefppedlodiaaGreatDoorAMp5
import Derived.Test.YtbiefppedlodiaaGreatDoorAMp4
open Int renaming eq_ofNat_of_zero_le -> ba, toNat_natCast -> aC
open List renaming all_eq_true -> aB, any_cons -> aE, any_nil -> aL, append_assoc -> bj, append_nil -> bN, eq_nil_of_length_eq_zero -> al, getElem_mem -> bg, length_append -> ai, length_cons -> aZ, length_nil -> aX, length_pos_iff -> bn, length_take -> aV, map_append -> aH, map_cons -> aG, map_nil -> bF, nil_append -> aP, replicate_succ -> av, replicate_zero -> ck, take_of_length_le -> ad, take_succ_eq_append_getElem -> af
open Nat renaming add_assoc -> cK, le_refl -> ax, pow_succ -> cj, reduceBEq -> au, zero_add -> bf, zero_le -> aA
set_option linter.unusedSimpArgs false
set_option linter.unusedVariables false
open Nat renaming reduceLT -> Na, reduceLeDiff -> Nb, reduceEqDiff -> Nc, reduceAdd -> Nk, reduceMul -> Nf, reducePow -> Ng, reduceSub -> Nh, reduceBEq -> Nz
open Int renaming reduceLT -> Za, reduceLE -> Zb, reduceToNat -> Zc
open And renaming intro -> Ai
open Go.AM renaming ashift -> Qa, aconv -> Qb, aindexAddr -> Qc, aindex -> Qd, aslice -> Qe, abuiltin -> Qf, awp_reg_seq -> wS, awp_reg_end -> wE, awp_seq_k -> wK, awp_cond_k -> wC
open Go.AM.AV renaming cells -> Qg, one -> Qh
set_option maxRecDepth 100000
set_option maxHeartbeats 8000000
namespace Go.Proofs.YtbiefppedlodiaaGreatDoor
open Go Go.AM Go.Proofs Tryz
variable{Γ:Nat->List AV}
def rB(number:Int)(N:cH):List UInt8:=1::(be 4 number.toNat++N.text)
def pd(N:cH)(l r:List UInt8):List UInt8:=2::(N.text++(l++r))
def qv(N:cH)(b:List UInt8):List UInt8:=3::(be 8 N.key++((be 1 N.parent.length++N.parent)++b))
def zI(number:Int)(N:cH):List UInt8:=if N.right∧0<=number∧number<32 then Sha.sum (rB number N) else[]
def qw(N:cH)(l r:List UInt8):List UInt8:=if N.right then Sha.sum (pd N l r) else[]
def tQ(N:cH)(b:List UInt8):List UInt8:=if N.right∧N.kind=2 then Sha.sum (qv N b) else[]
theorem FV(number:Int)(N:cH)(hr:N.right)(h0:0<=number)(h1:number<4294967296):iO N (eP 4 number ([1],false))=(rB number N,false):=by
 unfold iO eP;rw[if_pos hr,if_pos ⟨h0,oM⟩];simp[jX,jY,rB]
theorem IG(number:Int)(N:cH)(h:¬(N.right∧0<=number∧number<4294967296)):(iO N (eP 4 number ([1],false))).2=true:=by
 unfold iO;by_cases hr:N.right
 ·rw[if_pos hr];have :¬(0<=number∧number<2^(8*4)):=fun e=>h ⟨hr,e.1,by have:=e.2;omega⟩;unfold eP;rw[if_neg this];rfl
 ·rw[if_neg hr]
theorem BT(N:cH)(st:List UInt8×Bool):(iO N st).1.length<=st.1.length+100:=by
 unfold iO;split
 ·rename_i hr;have:=cH.pq hr;have:=Da N.text st;omega
 ·simp only;omega
theorem EC(jg:Γ 0=jZ Sha.H0)(hG:Γ 1=Sha.K.map wV)(number:Int)(hn: -9223372036854775808<=number∧number<=9223372036854775807)(N:cH)(hl:N.nS.length<=2^61)(s:AS):
  aI prog Γ 201 [.v (.int .i64 number),.agg N.cells] s (dm (zI number N) .any):=by
 refine xH func201 ntmps201 results201 ?_;have mQ:=fun s0 s p hp=>FU (Γ:=Γ) number hn N hl s0 s p ([1],false) dM hp;have hlen:(iO N (eP 4 number ([1],false))).1.length<=2^45:=by
  have h1:=BT N (eP 4 number ([1],false));have h2:=kG 4 number ([1],false);simp only[aZ,aX] at h2;omega
 have Yn:=fun s=>rA (Γ:=Γ) 1 dM _ _ xhe _ mQ hlen s;have kX:=FV number N;have mq:=IG number N;have hD:zI number N=if N.right∧0<=number∧number<32 then Sha.sum (rB number N) else[]:=rfl
 have hBl:N.right->(rB number N).length<=105:=(fun hr=>by have:=cH.pq hr;simp[rB];omega);clear mQ;generalize iO N (eP 4 number ([1],false))=F at *
 generalize zI number N=D at *
 generalize rB number N=B at *
 unfold cH.cells at *
 refine nQ 2 3 dM dM dM ?_;intro K hK;refine jN @ea.eq_1 ?_;intro o1 h1 o2 h2;refine hK _ _ o1 o2 _ _ rfl rfl h1 (by rw[AS.pj];exact h2) ?_;clear hK K h1 h2;refine jS @ea.eq_1 fun K hK=>?_;refine b6 (Yn _) ?_;rintro r s1 ⟨rfl,rfl⟩;by_cases hg:N.right∧0<=number∧number<4294967296
 ·have hF:=kX hg.1 hg.2.1 hg.2.2;rw[hF];refine jR hK ?_;clear hK K;refine wK fun K hK=>?_;by_cases ye:number<32
  ·refine jB (dF (show ¬(32:Int)<=number by omega)) ?_;refine gW ?_;refine hK _ _ ?_;clear hK K;have Yp:D=Sha.sum B:=(by rw[hD,if_pos ⟨hg.1,hg.2.1,ye⟩]);have HW:=hBl hg.1;have BO:=qD (Γ:=Γ) jg hG [B] .new sM (by simp;omega) s1;rw[show[B].flatten=B from sM,<-Yp] at BO;refine wS fun K hK=>?_;simp only[↓DN,Qa,Qb,Qc,Qd,Qe,Qf,Qg,Qh,seval,TT,List.replicate_one];refine b6 BO ?_;intro r s2 eU;have wY:D.length=32:=(by rw[Yp];exact Sha.im B);have hw:=eU.dV;have hle:=eU.1;obtain⟨t,e,rfl⟩:=gD eU (by rw[<-bn,wY];decide);refine jR hK ?_;clear hK K;refine jI ?_;exact⟨_,s1,hw,hle,rfl,rfl⟩
  ·refine jB (dT (show(32:Int)<=number by omega)) ?_;refine mS ?_;refine⟨dm [] .any,_,AV.eh,AS.le.refl _,?_,rfl⟩;rw[hD,if_neg (fun h=>ye h.2.2)];rfl
 ·have hF:=mq hg;rw[hF];refine jR hK ?_;refine xKy fun K hK=>?_;refine⟨dm [] .any,_,AV.eh,AS.le.refl _,?_,rfl⟩;rw[hD,if_neg (fun h=>hg ⟨h.1,h.2.1,oM⟩)];rfl
theorem N0(a b c:List UInt8):mL [a,b,c]=[dm a .any,dm b .any,dm c .any]:=rfl
theorem N1(a b:List UInt8):mL [a,b]=[dm a .any,dm b .any]:=rfl
theorem A6(jg:Γ 0=jZ Sha.H0)(hG:Γ 1=Sha.K.map wV)(N:cH)(hl:N.nS.length<=2^61)(x y:List UInt8)(hxy:x.length+y.length<=2^30)(s:AS):
  aI prog Γ 202 [.agg N.cells,dm x .any,dm y .any] s (dm (qw N x y) .any):=by
 refine xH func202 ntmps202 results202 ?_;have mQ:=fun s0 s p hp=>Cl (Γ:=Γ) N hl s0 s p ([2],false) dM hp;have hlen:(iO N ([2],false)).1.length<=2^45:=by
  have h1:=BT N ([2],false);simp only[aZ,aX] at h1;omega
 have Yn:=fun s=>rA (Γ:=Γ) 2 dM _ _ xhf _ mQ hlen s;have hD:qw N x y=if N.right then Sha.sum (pd N x y) else[]:=rfl
 have hB:pd N x y=(2::N.text)++(x++y):=rfl;have hT:=fun hr=>cH.pq (N:=N) hr;have kX:N.right->iO N ([2],false)=(2::N.text,false):=(fun hr=>by unfold iO;rw[if_pos hr];rfl);have mq:¬N.right->(iO N ([2],false)).2=true:=(fun hr=>by unfold iO;rw[if_neg hr]);clear mQ;generalize iO N ([2],false)=F at *
 generalize qw N x y=D at *
 generalize pd N x y=B at *
 have xab:N.right->(2::N.text).length<=101:=(fun hr=>by have:=hT hr;simp;omega);generalize (2::N.text)=pre at *
 unfold cH.cells at *
 refine ev 3 (by simp[fT]) ?_;intro K hK;refine jN @ea.eq_1 ?_;intro o ho;refine hK _ _ o _ rfl ho ?_;clear hK K ho;refine jS @ea.eq_1 fun K hK=>?_;refine b6 (Yn _) ?_;rintro r s1 ⟨rfl,rfl⟩;by_cases hg:N.right
 ·rw[kX hg];refine jR hK ?_;clear hK K;refine Q3 fun K hK=>?_;refine hK _ _ ?_;clear hK K;have Yp:D=Sha.sum B:=(by rw[hD,if_pos hg]);have Cu:=xab hg;have BO:=qD (Γ:=Γ) jg hG [pre,x,y] .new sM (by simp;omega) s1;rw[show[pre,x,y].flatten=B from by rw[hB];simp,<-Yp,N0] at BO;refine wS fun K hK=>?_;simp only[↓DN,Qa,Qb,Qc,Qd,Qe,Qf,Qg,Qh,seval,TT,av,ck];refine b6 BO ?_;intro r s2 eU;have wY:D.length=32:=(by rw[Yp];exact Sha.im B);have hw:=eU.dV;have hle:=eU.1;obtain⟨t,e,rfl⟩:=gD eU (by rw[<-bn,wY];decide);refine jR hK ?_;clear hK K;refine jI ?_;exact⟨_,s1,hw,hle,rfl,rfl⟩
 ·rw[mq hg];refine jR hK ?_;refine xKy fun K hK=>?_;refine⟨dm [] .any,_,AV.eh,AS.le.refl _,?_,rfl⟩;rw[hD,if_neg hg];rfl
theorem A7(jg:Γ 0=jZ Sha.H0)(hG:Γ 1=Sha.K.map wV)(N:cH)(hl:N.nS.length<=2^61)(x:List UInt8)(hx:x.length<=2^30)(s:AS):
  aI prog Γ 113 [.agg N.cells,dm x .any] s (dm (tQ N x) .any):=by
 refine xH func113 ntmps113 results113 ?_;have hD:tQ N x=if N.right∧N.kind=2 then Sha.sum (qv N x) else[]:=rfl
 have hB:qv N x=(3::(be 8 N.key++(be 1 N.parent.length++N.parent)))++x:=(by simp[qv]);have xac:=fun s=>pW (Γ:=Γ) N hl s;have TL:N.right->N.kind=2->N.key<2^64∧N.parent.length<=32:=by
  intro hr hk;have :N.held:=by
   unfold cH.right at hr;rw[hk] at hr;simp at hr;exact hr.2.1
  obtain⟨_,h2,h3⟩:=this;exact⟨oM,oM⟩
 have mQ:=fun hk hp s0 s p hq=>Cm (Γ:=Γ) N hk hp s0 s p ([3],false) dM hq;have hF:N.right->N.kind=2->iM 1 N.parent (jX 8 N.key ([3],false))=(3::(be 8 N.key++(be 1 N.parent.length++N.parent)),false):=by
  intro hr hk;have:=(TL hr hk).2;unfold iM eP;rw[if_pos ⟨oM,oM⟩];simp[jX,jY]
 generalize iM 1 N.parent (jX 8 N.key ([3],false))=F at *
 have xab:N.right->N.kind=2->(3::(be 8 N.key++(be 1 N.parent.length++N.parent))).length<=100:=(fun hr hk=>by have:=(TL hr hk).2;simp;omega);generalize (3::(be 8 N.key++(be 1 N.parent.length++N.parent)))=pre at *
 generalize tQ N x=D at *
 generalize qv N x=B at *
 unfold cH.cells at *
 obtain⟨k,m,y,pa,u⟩:=N;simp only at *
 refine ev 2 (by simp[fT]) ?_;intro K hK;refine jN @ea.eq_1 ?_;intro o ho;refine hK _ _ o _ rfl ho ?_;clear hK K ho;refine wK fun K hK=>?_;by_cases hk:k=2
 ·refine jS (Ai @ea.eq_1 (m8 hk)) fun K hK=>?_;refine b6 (xac _) ?_;rintro r s1 ⟨rfl,rfl⟩;by_cases hg:cH.right ⟨k,m,y,pa,u⟩
  ·rw[dT hg];refine jR hK ?_;clear hK K;refine gW ?_;refine hK _ _ ?_;clear hK K;obtain⟨q1,q2⟩:=TL hg hk;have hFF:=hF hg hk;have Cu:=xab hg hk;have Yn:=fun s=>rA (Γ:=Γ) 3 dM _ _ xhg _ (mQ q1 oM) (by rw[hFF];simp only;omega) s;rw[hFF] at Yn;refine jS @ea.eq_1 fun K hK=>?_;refine b6 (Yn _) ?_;rintro r s2 ⟨rfl,rfl⟩;refine jR hK ?_;clear hK K;have Yp:D=Sha.sum B:=(by rw[hD,if_pos ⟨hg,hk⟩]);have BO:=qD (Γ:=Γ) jg hG [pre,x] .new sM (by simp;omega) s2;rw[show[pre,x].flatten=B from by rw[hB];simp,<-Yp,N1] at BO;refine wS fun K hK=>?_;simp only[↓DN,Qa,Qb,Qc,Qd,Qe,Qf,Qg,Qh,seval,TT,av,ck];refine b6 BO ?_;intro r s3 eU;have wY:D.length=32:=(by rw[Yp];exact Sha.im B);have hw:=eU.dV;have hle:=eU.1;obtain⟨t,e,rfl⟩:=gD eU (by rw[<-bn,wY];decide);refine jR hK ?_;clear hK K;refine jI ?_;exact⟨_,s2,hw,hle,rfl,rfl⟩
  ·rw[dF hg];refine jR hK ?_;refine mS ?_;refine⟨dm [] .any,_,AV.eh,AS.le.refl _,?_,rfl⟩;rw[hD,if_neg (fun h=>hg h.1)];rfl
 ·refine jB (Ai @ea.eq_1 (mw hk)) ?_;refine mS ?_;refine⟨dm [] .any,_,AV.eh,AS.le.refl _,?_,rfl⟩;rw[hD,if_neg (fun h=>hk h.2)];rfl
theorem zJ(n:Nat)(hn:n<32)(N:cH)(hr:N.right)(s:AS):
  aI prog Γ 171 [.v (.int .i64 (n:Int)),.agg N.cells] s (.v (.string ⟨(Sha.sum (rB (n:Int) N)).toArray⟩)):=by
 refine xH func171 ntmps171 results171 ?_;have hw:=fun s=>rq (Γ:=Γ) N hr s;have hT:=cH.pq hr;have hB:rB (n:Int) N=1::(be 4 n++N.text):=rfl;have HW:(rB (n:Int) N).length<=110:=(by rw[hB];simp;omega);have BO:=fun s=>mz (Γ:=Γ) (rB (n:Int) N) oM s;rw[hB] at BO HW;rw[show rB (n:Int) N=1::(be 4 n++N.text) from rfl];generalize N.text=tx at *
 unfold cH.cells at *
 refine ev 3 (by simp[fT]) ?_;intro K hK;refine jN @ea.eq_1 ?_;intro o ho;refine hK _ _ o _ rfl ho ?_;clear hK K ho;refine eB T.mixed [2,5,7] kM ?_;intro K hK;refine jN (Ai @ea.eq_1 (iS n (show n<2^64 by omega))) ?_;refine b6 (fU n 4 oM oM _) ?_;rintro r s1 ⟨rfl,rfl⟩;refine jN (Ai @ea.eq_1 @ga) ?_;refine b6 (hw _) ?_;rintro r s2 ⟨rfl,rfl⟩;refine jN (Ai @ea.eq_1 (Ai @ga (Ai (eS (show 4+1+tx.length<2^62 by omega)) (eS (show 5+tx.length<2^62 by omega))))) ?_;refine b6 (BO _) ?_;rintro r s3 ⟨rfl,rfl⟩;refine jR hK ?_;exact jJ
theorem wu(N:cH)(hr:N.right)(x y:List UInt8)(hxy:x.length+y.length<=2^30)(s:AS):
  aI prog Γ 172 [.agg N.cells,.v (.string ⟨x.toArray⟩),.v (.string ⟨y.toArray⟩)] s (.v (.string ⟨(Sha.sum (pd N x y)).toArray⟩)):=by
 refine xH func172 ntmps172 results172 ?_;have hw:=fun s=>rq (Γ:=Γ) N hr s;have hT:=cH.pq hr;have hB:pd N x y=2::(N.text++(x++y)):=rfl;have BO:=fun s=>mz (Γ:=Γ) (pd N x y) (by rw[hB];simp;omega) s;rw[hB] at BO⊢;generalize N.text=tx at *
 unfold cH.cells at *
 refine ev 3 (by simp[fT]) ?_;intro K hK;refine jN @ea.eq_1 ?_;intro o ho;refine hK _ _ o _ rfl ho ?_;clear hK K ho;refine jS @ea.eq_1 fun K hK=>?_;refine b6 (hw _) ?_;rintro r s2 ⟨rfl,rfl⟩;refine jN (Ai @ea.eq_1 (Ai (eS (show 1+tx.length<2^62 by omega)) (Ai (eS (show tx.length+1+x.length<2^62 by omega)) (Ai (eS (show tx.length+(x.length+1)+y.length<2^62 by omega)) (eS (show tx.length+x.length+1+y.length<2^62 by omega)))))) ?_;refine b6 (BO _) ?_;rintro r s3 ⟨rfl,rfl⟩;refine jR hK ?_;exact jJ
theorem wv(N:cH)(hk:N.key<2^64)(hp:N.parent.length<=32)(x:List UInt8)(hx:x.length<=2^30)(s:AS):
  aI prog Γ 121 [.agg N.cells,.v (.string ⟨x.toArray⟩)] s (.v (.string ⟨(Sha.sum (qv N x)).toArray⟩)):=by
 refine xH func121 ntmps121 results121 ?_;have hB:qv N x=3::(be 8 N.key++((be 1 N.parent.length++N.parent)++x)):=rfl;have BO:=fun s=>mz (Γ:=Γ) (qv N x) (by rw[hB];simp;omega) s;rw[hB] at BO⊢;obtain⟨k,m,y,pa,u⟩:=N;simp only at *
 unfold cH.cells at *
 refine ev 2 (by simp[fT]) ?_;intro K hK;refine jN @ea.eq_1 ?_;intro o ho;refine hK _ _ o _ rfl ho ?_;clear hK K ho;refine eB T.mixed [2,7,11] kM ?_;intro K hK;refine jN @ea.eq_1 ?_;refine b6 (fU y 8 hk oM _) ?_;rintro r s1 ⟨rfl,rfl⟩;refine jN (Ai @ea.eq_1 @ga) ?_;refine b6 (ln pa 1 oM oM _) ?_;rintro r s2 ⟨rfl,rfl⟩;refine jN (Ai @ea.eq_1 (Ai @ga (Ai (eS (show 9+(1+pa.length)<2^62 by omega)) (eS (show 8+(1+pa.length)+1+x.length<2^62 by omega))))) ?_;refine b6 (BO _) ?_;rintro r s3 ⟨rfl,rfl⟩;refine jR hK ?_;exact jJ
def jj(t:List cH):Nat->Nat->List UInt8
 |0,n=>zI ((n/2:Nat):Int) (nd t n)
 |l+1,n=>qw (nd t n) (jj t l (n-2^l)) (jj t l (n+2^l))
theorem qE(t:List cH):∀l n,(jj t l n).length<=32
 |0,n=>by
  unfold jj zI;split
  ·rw[Sha.im];exact ax _
  ·simp
 |l+1,n=>by
  unfold jj qw;split
  ·rw[Sha.im];exact ax _
  ·simp
theorem IH(jg:Γ 0=jZ Sha.H0)(mC:Γ 1=Sha.K.map wV)(hG:Γ 3=lQ.map uU)(t:List cH)(ht:iD t):∀(l n:Nat),lv n=l->n<63->n+2^l<=t.length->∀s,
  aI prog Γ 165 [eA t,.v (.int .i64 n)] s (dm (jj t l n) .any):=by
 intro l;induction l with
 |zero=>
  intro n hl hn hs s;refine xH func165 ntmps165 results165 ?_;have tT:=fun s=>nU (Γ:=Γ) hG (n:Int) oM s;rw[wh hn hl] at tT;have hi:n<t.length:=(by have :(2:Nat)^0=1:=rfl;omega);have gO:=gL hi;have hH:=fun s=>EC (Γ:=Γ) jg mC ((n/2:Nat):Int) oM (nd t n) (ht.nd n).1 s;have iz:jj t 0 n=zI ((n/2:Nat):Int) (nd t n):=rfl;rw[iz];generalize zI ((n/2:Nat):Int) (nd t n)=D at *
  generalize nd t n=N at *
  unfold eA;generalize eb cH.cells t=X at *
  obtain⟨nk,nm,ny,pH,nu⟩:=N;unfold cH.cells at gO hH;unfold ea at gO hH;have gC:(0:Int)<=(n:Int):=oM;refine jA ?_;refine jK (tT _) ?_;rintro s1 rfl;refine xKz fun K hK=>?_;refine wS fun K hK=>?_;simp only[↓DN,Qa,Qb,Qc,Qd,Qe,Qf,Qg,Qh,seval,TT,qh,iI n oM,dB,hi,gC,gO];refine b6 (hH _) ?_;rintro r s2 ⟨rfl,rfl⟩;refine jR hK ?_;exact jJ
 |succ l ih=>
  intro n hl hn hs s;refine xH func165 ntmps165 results165 ?_;obtain⟨hk,QU,CM,Cw,LI,UI⟩:=se hn hl;have tT:=fun s=>nU (Γ:=Γ) hG (n:Int) oM s;have hrc:=fun s=>su (Γ:=Γ) hG (n:Int) oM s;rw[hk] at tT hrc;have Al:0<2^l:=Nat.two_pow_pos l;have SF:2^(l+1)=2^l+2^l:=(by rw[cj];omega);have hi:n<t.length:=oM;have gO:=gL hi;have h1:=fun s=>ih (n-2^l) QU oM oM s;have h2:=fun s=>ih (n+2^l) CM Cw oM s;have hB:=fun s=>A6 (Γ:=Γ) jg mC (nd t n) (ht.nd n).1 (jj t l (n-2^l)) (jj t l (n+2^l)) (by have:=qE t l (n-2^l);have:=qE t l (n+2^l);omega) s;have iz:jj t (l+1) n=qw (nd t n) (jj t l (n-2^l)) (jj t l (n+2^l)):=rfl;rw[iz];clear ih iz;generalize qw (nd t n) (jj t l (n-2^l)) (jj t l (n+2^l))=D at *
  generalize jj t l (n-2^l)=H1 at *
  generalize jj t l (n+2^l)=H2 at *
  generalize nd t n=N at *
  unfold eA at *
  generalize eb cH.cells t=X at *
  obtain⟨nk,nm,ny,pH,nu⟩:=N;unfold cH.cells at gO hB;unfold ea at gO hB;have gC:(0:Int)<=(n:Int):=oM;refine jA ?_;refine jK (tT _) ?_;rintro s1 rfl;refine Q3 fun K hK=>?_;refine hK _ _<|jK (hrc _) ?_;rintro s2 rfl;refine eB T.mixed [6,9,10] kM ?_;intro K hK;simp only[↓DM,eZ,DX,↓DN,Qa,Qb,Qc,Qd,Qe,Qf,Qg,Qh,seval,TT,dB,hi,gC,gO];refine b6 (h1 _) ?_;rintro r s3 ⟨rfl,rfl⟩;refine jM ?_;refine b6 (h2 _) ?_;rintro r s4 ⟨rfl,rfl⟩;refine jM ?_;refine b6 (hB _) ?_;rintro r s5 ⟨rfl,rfl⟩;refine jR hK ?_;exact jJ
theorem Ln{t:List cH}(hr:eJ t){n:Nat}(hn:n<63):zI ((n/2:Nat):Int) (nd t n)=Sha.sum (rB ((n/2:Nat):Int) (nd t n)):=by
 unfold zI;exact if_pos ⟨hr.nd n,oM,oM⟩
theorem FW{t:List cH}(hr:eJ t)(n:Nat)(a b:List UInt8):qw (nd t n) a b=Sha.sum (pd (nd t n) a b):=by
 unfold qw;exact if_pos (hr.nd n)
theorem Cn(t:List cH)(ht:iD t)(hr:eJ t):∀(l n:Nat),lv n=l->n<63->n+2^l<=t.length->∀s,
  aI prog Γ 122 [eA t,.v (.int .i64 n)] s (.v (.string ⟨(jj t l n).toArray⟩)):=by
 intro l;induction l with
 |zero=>
  intro n hl hn hs s;refine xH func122 ntmps122 results122 ?_;have tT:=fun s=>hM (Γ:=Γ) (n:Int) oM s;rw[wh hn hl] at tT;have hi:n<t.length:=(by have :(2:Nat)^0=1:=rfl;omega);have gO:=gL hi;have hH:=fun s=>zJ (Γ:=Γ) (n/2) oM (nd t n) (hr.nd n) s;have iz:jj t 0 n=Sha.sum (rB ((n/2:Nat):Int) (nd t n)):=Ln hr hn;rw[iz];generalize Sha.sum (rB ((n/2:Nat):Int) (nd t n))=D at *
  generalize nd t n=N at *
  unfold eA;generalize eb cH.cells t=X at *
  obtain⟨nk,nm,ny,pH,nu⟩:=N;unfold cH.cells at gO hH;unfold ea at gO hH;have gC:(0:Int)<=(n:Int):=oM;refine jA ?_;refine jK (tT _) ?_;rintro s1 rfl;refine xKz fun K hK=>?_;refine wS fun K hK=>?_;simp only[↓DN,Qa,Qb,Qc,Qd,Qe,Qf,Qg,Qh,seval,TT,qh,iI n oM,dB,hi,gC,gO];refine b6 (hH _) ?_;rintro r s2 ⟨rfl,rfl⟩;refine jR hK ?_;exact jJ
 |succ l ih=>
  intro n hl hn hs s;refine xH func122 ntmps122 results122 ?_;obtain⟨hk,QU,CM,Cw,LI,UI⟩:=se hn hl;have tT:=fun s=>hM (Γ:=Γ) (n:Int) oM s;rw[hk] at tT;have Al:0<2^l:=Nat.two_pow_pos l;have SF:2^(l+1)=2^l+2^l:=(by rw[cj];omega);have hi:n<t.length:=oM;have gO:=gL hi;have h1:=fun s=>ih (n-2^l) QU oM oM s;have h2:=fun s=>ih (n+2^l) CM Cw oM s;have hB:=fun s=>wu (Γ:=Γ) (nd t n) (hr.nd n) (jj t l (n-2^l)) (jj t l (n+2^l)) (by have:=qE t l (n-2^l);have:=qE t l (n+2^l);omega) s;have iz:jj t (l+1) n=Sha.sum (pd (nd t n) (jj t l (n-2^l)) (jj t l (n+2^l))):=FW hr n _ _;rw[iz];clear ih iz;generalize Sha.sum (pd (nd t n) (jj t l (n-2^l)) (jj t l (n+2^l)))=D at *
  generalize jj t l (n-2^l)=H1 at *
  generalize jj t l (n+2^l)=H2 at *
  generalize nd t n=N at *
  unfold eA at *
  generalize eb cH.cells t=X at *
  obtain⟨nk,nm,ny,pH,nu⟩:=N;unfold cH.cells at gO hB;unfold ea at gO hB;have gC:(0:Int)<=(n:Int):=oM;refine jA ?_;refine jK (tT _) ?_;rintro s1 rfl;refine Q3 fun K hK=>?_;refine hK _ _<|eB T.mixed [6,9,10] kM ?_;intro K hK;simp only[↓DM,eZ,DX,↓DN,Qa,Qb,Qc,Qd,Qe,Qf,Qg,Qh,seval,TT,dB,hi,gC,gO];refine b6 (h1 _) ?_;rintro r s3 ⟨rfl,rfl⟩;refine jM ?_;refine b6 (h2 _) ?_;rintro r s4 ⟨rfl,rfl⟩;refine jM ?_;refine b6 (hB _) ?_;rintro r s5 ⟨rfl,rfl⟩;refine jR hK ?_;exact jJ
def sW(t:List cH)(x:Int):List UInt8:=if 0<=x∧x<(t.length:Int)∧eJ t then jj t (lv x.toNat) x.toNat else[]
theorem FX(jg:Γ 0=jZ Sha.H0)(mC:Γ 1=Sha.K.map wV)(hG:Γ 3=lQ.map uU)(t:List cH)(ht:iD t)(x:Int)(s:AS):
  aI prog Γ 114 [eA t,.v (.int .i64 x)] s (dm (sW t x) .any):=by
 refine xH func114 ntmps114 results114 ?_;have hr:=fun s=>pc (Γ:=Γ) hG t ht s;have hh:=fun n hn hs s=>IH (Γ:=Γ) jg mC hG t ht (lv n) n rfl hn hs s;have nD:=ht.1;have uS:¬(0<=x∧x<(t.length:Int)∧eJ t)->sW t x=[]:=fun h=>if_neg h;have Eu:0<=x∧x<(t.length:Int)∧eJ t->sW t x=jj t (lv x.toNat) x.toNat:=fun h=>if_pos h;unfold eA at *
 generalize eb cH.cells t=X at *
 refine yd fun K hK=>?_;by_cases h0:x<0
 ·refine jB (dT h0) ?_;refine mS ?_;refine⟨_,_,AV.eh (sz:=1),AS.le.refl _,?_,rfl⟩;rw[uS (fun k=>oM)];rfl
 ·by_cases h1:(t.length:Int)<=x
  ·refine jB (Ai (dF h0) (dT h1)) ?_;refine mS ?_;refine⟨_,_,AV.eh (sz:=1),AS.le.refl _,?_,rfl⟩;rw[uS (fun k=>oM)];rfl
  ·refine jS (Ai (dF h0) (dF h1)) fun K hK=>?_;refine b6 (hr _) ?_;rintro r s1 ⟨rfl,rfl⟩;by_cases oi:eJ t
   ·rw[dT oi];refine jR hK ?_;clear hK K;refine gW ?_;refine hK _ _ ?_;clear hK K;obtain⟨n,rfl⟩:=ba (show 0<=x by omega);have hn:n<t.length:=oM;obtain⟨lA,oq⟩:=oi.span hn;refine jK (hh n oq lA _) ?_;rintro s2 rfl;refine jI ?_;refine jW ⟨?_,rfl⟩;rw[Eu ⟨oM,oM,oi⟩,aC]
   ·rw[dF oi];refine jR hK ?_;refine mS ?_;refine⟨_,_,AV.eh (sz:=1),AS.le.refl _,?_,rfl⟩;rw[uS (fun k=>oi k.2.2)];rfl
theorem Lo(l:List Int)(v:Int)(hl:l.length<=2^61)(s:AS):aI prog Γ 129 [ea l .any,.v (.int .i64 v)] s (.v (.int .i64 (fZ (fun i=>v==l.getD i 0) l.length 0))):=by
 refine xH func129 ntmps129 results129 ?_;obtain⟨Q,hQ⟩:∃Q:Nat->Bool,Q=fun i=>v==l.getD i 0:=⟨_,rfl⟩;rw[<-hQ];unfold ea;refine Q2 fun K hK=>?_;refine dU (fun E s2=>∃i:Nat,i<=l.length∧fZ Q (l.length-i) i=fZ Q l.length 0∧E 8=.v (.int .i64 i)∧E 7=.v (.int .i64 l.length)∧E 0=.sl 1 l.length (l.map ed) .any∧E 1=.v (.int .i64 v)∧s2=s)
  (fun E _=>match E 8 with |.v (.int _ i)=>l.length-i.toNat|_=>0) ?_ ?_
 ·exact⟨0,aA _,rfl,rfl,rfl,rfl,rfl,rfl⟩
 ·rintro E1 s2 ⟨i,hi,hf,g8,g7,g0,g1,rfl⟩ -
  by_cases et:i<l.length
  ·refine jB (Ai @g8 (Ai @g7 (Ai @dB (dT et)))) ?_;refine Ja fun K2 eH=>?_;refine eH _ _<|nF fun K3 eX=>?_;have EU:Q i=(v==l[i]):=(by rw[hQ];simp[List.getD,et]);obtain⟨k',LO⟩:∃k',l.length-i=k'+1:=⟨l.length-i-1,oM⟩;have I5:l.length-(i+1)=k':=oM;rw[LO] at hf;have gO:=jt et;have gC:(0:Int)<=(i:Int):=oM;generalize l[i]=u at *
   refine jB @g8 ?_;by_cases hq:v=u
   ·have Ye:Q i=true:=(by rw[EU];exact qZ hq);refine jB (Ai @g1 (Ai @g0 (Ai @dB (Ai @et (Ai @gC (Ai @gO (qZ hq))))))) ?_;refine mS ?_;rw[<-hf,pz Ye];exact jW ⟨rfl,rfl⟩
   ·have Ye:Q i=false:=(by rw[EU];exact pt hq);refine jB (Ai @g1 (Ai @g0 (Ai @dB (Ai @et (Ai @gC (Ai @gO (pt hq))))))) ?_;refine gW ?_;simp only[dn,dJ,if_true,if_false];refine eX _ _<|jD (Ai @g8 (eK i oM)) ?_;refine⟨⟨i+1,oM,by rw[I5,<-hf,pA Ye],rfl,g7,g0,g1,rfl⟩,?_⟩;simp only[g8,dY,↓reduceIte];omega
  ·refine jB (Ai @g8 (Ai @g7 (Ai @dB (dF et)))) ?_;refine Jb fun K2 eH=>?_;simp only[dJ,dn,if_true];refine hK _ _ ?_;rw[show l.length-i=0 by omega] at hf;refine wq ?_;rw[<-hf];exact jW ⟨rfl,rfl⟩
theorem oc(l:List Int)(v:Int)(hl:l.length<=2^61)(s:AS):aI prog Γ 77 [ea l .any,.v (.int .i64 v)] s (.v (.bool (decide (v∈l)))):=by
 refine xH func77 ntmps77 results77 ?_;have hc:=fun s=>Lo (Γ:=Γ) l v hl s;have ha:=Eg (fun x=>v==x) l;have hm:l.any (fun x=>v==x)=decide (v∈l):=by
  rw[Bool.eq_iff_iff,List.any_eq_true,decide_eq_true_iff];constructor
  ·rintro⟨x,hx,he⟩;rw[beq_iff_eq.1 he];exact hx
  ·intro h;exact⟨v,h,sM⟩
 rw[hm] at ha;generalize fZ (fun i=>v==l.getD i 0) l.length 0=n at *
 refine jA ?_;refine jK (hc _) ?_;rintro s1 rfl;refine jI ?_;rw[<-ha];exact jW ⟨rfl,rfl⟩
def Wp(s0:AS)(k:Nat)(cs:List AV)(L:List Int)(r:AV)(s':AS):Prop:=il 1 s0 s' r (k+L.length) (cs++L.map ed)∧s0.le s'
theorem sg(hG:Γ 3=lQ.map uU)(t:List cH)(oi:eJ t)(skip:List Int)(QD:skip.length<=2^61)(n:Nat)(Po:n<63)(hi:n<t.length)(zL:mD (n:Int)=none∨(nd t n).kind≠0)
  (s0 s:AS) (x:AV) (k:Nat) (cs:List AV) (hx:il 1 s0 s x k cs) (hle:s0.le s) (hk:k+33<=100000):
  dS prog Γ 124 [eA t,.v (.int .i64 n),ea skip .any,x] s (Wp s0 k cs (p6 skip (nd t n) n++n9 skip (nd t n).nS)):=by
 refine xH func124 ntmps124 results124 ?_;have tT:=fun s=>nU (Γ:=Γ) hG (n:Int) oM s;have Jf:=fun v s=>oc (Γ:=Γ) skip v QD s;have gO:=gL hi;have hur:=sT (oi.nd n);have wY:=wj skip (nd t n) n;have rC:p6 skip (nd t n) n=if((nd t n).kind=1∧((n/2:Nat):Int)∉skip)∨(nd t n).kind=2 then[(n:Int)] else[]:=rfl
 generalize p6 skip (nd t n) n=SL at *
 generalize nd t n=N at *
 unfold eA;generalize eb cH.cells t=X at *
 obtain⟨nk,nm,ny,pH,nu⟩:=N;unfold cH.cells at gO;unfold ea at gO Jf⊢;simp only at hur rC zL;have gC:(0:Int)<=(n:Int):=oM;refine jA ?_;refine ev 9 dM ?_;intro K hK;simp only[↓DM,eZ,DX,↓DN,Qa,Qb,Qc,Qd,Qe,Qf,Qg,Qh,seval,TT,dB,hi,gC,gO];intro o1 h1;refine hK _ _ o1 _ rfl h1 ?_;clear hK K h1;refine wK fun K0 xy=>?_;have h0:∀(E:Env)(lf:Int)(ok:Bool),(ok=true->nk≠0)->E 0=.sl 5 t.length X .any->E 1=.v (.int .i64 n)->E 2=.sl 1 skip.length (skip.map ed) .any->E 3=x->E 9=.ij [.v (.int .i64 nk),.sl 1 nm.length (nm.map cU) .any,.v (.int .u64 ny),.sl 1 pH.length (pH.map cU) .any,.sl 1 nu.length (nu.map ed) .any]->E 10=.v (.int .i64 lf)->E 11=.v (.bool ok)->K0 E s:=by
  intro E lf ok mR g0 g1 g2 g3 g9 g10 g11;refine xy _ _ ?_;clear xy K0;refine wK fun K1 iW=>?_;have h1:∀(E:Env)(s1:AS)(x1:AV),E 1=.v (.int .i64 n)->E 2=.sl 1 skip.length (skip.map ed) .any->E 9=.ij [.v (.int .i64 nk),.sl 1 nm.length (nm.map cU) .any,.v (.int .u64 ny),.sl 1 pH.length (pH.map cU) .any,.sl 1 nu.length (nu.map ed) .any]->E 3=x1->il 1 s0 s1 x1 (k+SL.length) (cs++SL.map ed)->s0.le s1->K1 E s1:=by
   clear g0 g1 g2 g3 g9 g10 g11 hx hle;intro E s1 x1 g1 g2 g9 g3 hx hle;refine iW _ _ ?_;clear iW K1;refine wK fun K2 eH=>jB @g9 ?_;refine dH<|dU (fun E s2=>∃(i:Nat)(x2:AV),i<=nu.length∧E 67=.v (.int .i64 i)∧E 66=.v (.int .i64 nu.length)∧E 65=.sl 1 nu.length (nu.map ed) .any∧E 2=.sl 1 skip.length (skip.map ed) .any∧E 3=x2∧il 1 s0 s2 x2 (k+SL.length+(n9 skip (nu.take i)).length) (cs++SL.map ed++(n9 skip (nu.take i)).map ed)∧s0.le s2)
    (fun E _=>match E 67 with |.v (.int _ i)=>nu.length-i.toNat|_=>0) ?_ ?_
   ·refine⟨0,x1,aA _,rfl,rfl,rfl,g2,g3,?_,hle⟩;have :n9 skip (nu.take 0)=[]:=(by simp[n9]);rw[this];simpa using hx
   ·clear g1 g2 g9 g3 hx hle;rintro E2 s2 ⟨i,x2,et,g67,g66,g65,g2,g3,hx,hle⟩ -
    by_cases CB:i<nu.length
    ·refine jB (Ai @g67 (Ai @g66 (Ai @dB (dT CB)))) ?_;refine Ja fun K3 eX=>?_;refine eX _ _<|nF fun K4 jm=>?_;have TM:(0:Int)<=(i:Int):=oM;have NR:=jt CB;have hub:=hur.2 nu[i] (bg CB);have QV:=GI (skip:=skip) CB;have hlen:=zx skip (nu.take i);have fB:(nu.take i).length=i:=(by rw[aV];omega);generalize nu[i]=u at *
     have fu:∀(E:Env)(s3:AS)(x3:AV),E 67=.v (.int .i64 i)->E 66=.v (.int .i64 nu.length)->E 65=.sl 1 nu.length (nu.map ed) .any->E 2=.sl 1 skip.length (skip.map ed) .any->E 3=x3->il 1 s0 s3 x3 (k+SL.length+(n9 skip (nu.take (i+1))).length) (cs++SL.map ed++(n9 skip (nu.take (i+1))).map ed)->s0.le s3->K4 E s3:=by
      intro E s3 x3 f67 f66 f65 f2 f3 fx Dx;refine jm _ _ ?_;clear jm K4;refine jD (Ai @f67 (eK i oM)) ?_;refine⟨⟨i+1,x3,oM,rfl,f66,f65,f2,f3,fx,Dx⟩,?_⟩;simp only[g67,dY,↓reduceIte];omega
     clear jm;rw[QV] at fu;generalize n9 skip (nu.take i)=F at *
     generalize hCS:cs++SL.map ed=CS at *
     refine jB (Ai @g65 (Ai @g67 (Ai @dB (Ai @CB (Ai @TM (Ai @NR @ed.eq_1)))))) ?_;refine jS @g2 fun K hK=>?_;refine b6 (Jf _ _) ?_;rintro r s3 ⟨rfl,rfl⟩;by_cases hs:u∈skip
     ·rw[dT hs];rw[if_neg (fun q=>q hs),bN] at fu;refine jR hK ?_;clear hK K;refine gW ?_;simp only[dn,dJ,if_true,if_false];exact fu _ _ _ g67 g66 g65 g2 g3 hx hle
     ·rw[dF hs];rw[if_pos hs] at fu;have e2:mF .i64 2 u=2*u:=iv oM;rw[ai,List.length_singleton,aH,aG,bF,<-cK,<-bj] at fu;refine jR hK ?_;refine jE ?_;rcases hx with⟨rfl,lu,yS⟩|⟨t',e,rfl,ta,mg⟩
      ·refine wE fun K hK=>?_;simp only[↓DN,Qa,Qb,Qc,Qd,Qe,Qf,Qg,Qh,seval,TT,g3,e2,eW,av];intro t' ta;refine hK _ _ ?_;simp only[dn,dJ,if_true,if_false];rw[lu,yS] at fu;exact fu _ _ (.sl 1 1 [.v (.int .i64 (2*u))] (.own t' 0)) g67 g66 g65 g2 rfl (.inr ⟨t',0,rfl,by simp[AS.eT],eC hle ta⟩) (AS.eE hle (eC hle ta) 0)
      ·refine wE fun K hK=>?_;simp only[↓DN,Qa,Qb,Qc,Qd,Qe,Qf,Qg,Qh,seval,TT,g3,e2,ta,av];refine⟨oM,oM,hK _ _ ?_⟩;simp only[dn,dJ,if_true,if_false];exact fu _ _ (.sl 1 (k+SL.length+F.length+1) (CS++(F.map ed++[.v (.int .i64 (2*u))])) (.own t' (e+1))) g67 g66 g65 g2 rfl (.inr ⟨t',e+1,by rw[bj];rfl,by simp[AS.eT],mg⟩) (AS.eE hle mg (e+1))
    ·refine jB (Ai @g67 (Ai @g66 (Ai @dB (dF CB)))) ?_;refine Jb fun K3 eX=>?_;simp only[dJ,dn,if_true];refine eH _ _ ?_;rw[ad oM] at hx;refine jB @g3 ?_;refine jI ?_;refine⟨_,_,AV.dV.refl _,AS.le.refl _,?_,hle⟩;rw[ai,aH,<-cK,<-bj];exact hx
  clear iW;refine dH<|wK fun K3 eX=>?_;have h3:∀(E:Env),E 1=.v (.int .i64 n)->E 2=.sl 1 skip.length (skip.map ed) .any->E 9=.ij [.v (.int .i64 nk),.sl 1 nm.length (nm.map cU) .any,.v (.int .u64 ny),.sl 1 pH.length (pH.map cU) .any,.sl 1 nu.length (nu.map ed) .any]->E 3=x->E 25=.v (.bool false)->K3 E s:=by
   clear g0 g1 g2 g3 g9 g10 g11;intro E g1 g2 g9 g3 g25;refine eX _ _ ?_;clear eX K3;refine xZ @g25<|wK fun K2 eH=>?_;have h2:∀(E:Env)(b:Bool),(b=true↔(nk=1∧((n/2:Nat):Int)∉skip)∨nk=2)->E 1=.v (.int .i64 n)->E 2=.sl 1 skip.length (skip.map ed) .any->E 9=.ij [.v (.int .i64 nk),.sl 1 nm.length (nm.map cU) .any,.v (.int .u64 ny),.sl 1 pH.length (pH.map cU) .any,.sl 1 nu.length (nu.map ed) .any]->E 3=x->E 46=.v (.bool b)->K2 E s:=by
    clear g1 g2 g3 g9 g25;intro E b hb g1 g2 g9 g3 g46;refine eH _ _ ?_;clear eH K2;cases b with
    |false=>
     rw[if_neg (fun q=>by have:=hb.2 q;cases this)] at rC;subst rC;refine xZ @g46<|dX ?_;simp only[dn,dJ,if_true,if_false];refine h1 _ _ x g1 g2 g9 g3 ?_ hle;simpa using hx
    |true=>
     rw[if_pos (hb.1 rfl)] at rC;subst rC;refine xY @g46 ?_;rcases hx with⟨rfl,lu,yS⟩|⟨t',e,rfl,ta,mg⟩
     ·refine wE fun K hK=>?_;simp only[↓DN,Qa,Qb,Qc,Qd,Qe,Qf,Qg,Qh,seval,TT,g3,g1,eW,av];intro t' ta;refine hK _ _ ?_;simp only[dn,dJ,if_true,if_false];rw[lu,yS] at h1;exact h1 _ _ (.sl 1 1 [.v (.int .i64 (n:Int))] (.own t' 0)) g1 g2 g9 rfl (.inr ⟨t',0,rfl,by simp[AS.eT],eC hle ta⟩) (AS.eE hle (eC hle ta) 0)
     ·refine wE fun K hK=>?_;simp only[↓DN,Qa,Qb,Qc,Qd,Qe,Qf,Qg,Qh,seval,TT,g3,g1,ta,av];refine⟨oM,oM,hK _ _ ?_⟩;simp only[dn,dJ,if_true,if_false];exact h1 _ _ (.sl 1 (k+1) (cs++[.v (.int .i64 (n:Int))]) (.own t' (e+1))) g1 g2 g9 rfl (.inr ⟨t',e+1,rfl,by simp[AS.eT],mg⟩) (AS.eE hle mg (e+1))
   clear eH;refine wK fun K4 jm=>?_;have h4:∀(E:Env)(b:Bool),(b=true↔nk=1∧((n/2:Nat):Int)∉skip)->E 1=.v (.int .i64 n)->E 2=.sl 1 skip.length (skip.map ed) .any->E 9=.ij [.v (.int .i64 nk),.sl 1 nm.length (nm.map cU) .any,.v (.int .u64 ny),.sl 1 pH.length (pH.map cU) .any,.sl 1 nu.length (nu.map ed) .any]->E 3=x->E 46=.v (.bool b)->K4 E s:=by
    clear g1 g2 g9 g3 g25;intro E b hb g1 g2 g9 g3 g46;refine jm _ _ ?_;clear jm K4;cases b with
    |true=>
     refine xY @g46<|dX ?_;exact h2 _ true ⟨fun _=>.inl (hb.1 rfl),fun _=>rfl⟩ g1 g2 g9 g3 g46
    |false=>
     refine xZ @g46 ?_;have RH:¬(nk=1∧((n/2:Nat):Int)∉skip):=(fun q=>by have:=hb.2 q;cases this);by_cases k2:nk=2
     ·refine jU (Ai @g9 (qZ k2)) fun K hK=>?_;exact hK _ _ (h2 _ true ⟨fun _=>.inr k2,fun _=>rfl⟩ g1 g2 g9 g3 rfl)
     ·refine jU (Ai @g9 (pt k2)) fun K hK=>?_;exact hK _ _ (h2 _ false ⟨(by intro h;cases h),fun q=>by rcases q with q|q;exact absurd q RH;exact absurd q k2⟩ g1 g2 g9 g3 rfl)
   clear jm;by_cases k1:nk=1
   ·refine jU (Ai @g9 (Ai (qZ k1) (Ai @g2 (Ai @g1 (Ai @qh (iI n oM)))))) fun K hK=>?_;refine b6 (Jf _ _) ?_;rintro r s1 ⟨rfl,rfl⟩;by_cases hs:((n/2:Nat):Int)∈skip
    ·rw[dT hs];refine jM ?_;exact hK _ _ (h4 _ false ⟨(by intro h;cases h),fun q=>absurd hs q.2⟩ g1 g2 g9 g3 rfl)
    ·rw[dF hs];refine jM ?_;exact hK _ _ (h4 _ true ⟨fun _=>⟨k1,hs⟩,fun _=>rfl⟩ g1 g2 g9 g3 rfl)
   ·refine jU (Ai @g9 (pt k1)) fun K hK=>?_;exact hK _ _ (h4 _ false ⟨(by intro h;cases h),fun q=>absurd q.1 k1⟩ g1 g2 g9 g3 rfl)
  clear eX;by_cases k0:nk=0
  ·obtain rfl:ok=false:=by
    cases ok with
    |false=>rfl
    |true=>exact absurd k0 (mR rfl)
   refine jU (Ai @g9 (Ai @g11 (qZ k0))) fun K hK=>?_;exact hK _ _ (h3 _ g1 g2 g9 g3 rfl)
  ·refine jU (Ai @g9 (pt k0)) fun K hK=>?_;exact hK _ _ (h3 _ g1 g2 g9 g3 rfl)
 clear xy;rcases zL with zL|zL
 ·rw[zL] at tT;refine jT fun K hK=>?_;refine b6 (tT _) ?_;rintro r s1 ⟨rfl,rfl⟩;refine jM ?_;exact hK _ _ (h0 _ 0 false (by intro h;cases h) rfl rfl rfl rfl rfl rfl rfl)
 ·cases LU:mD (n:Int) with
  |none=>
   rw[LU] at tT;refine jT fun K hK=>?_;refine b6 (tT _) ?_;rintro r s1 ⟨rfl,rfl⟩;refine jM ?_;exact hK _ _ (h0 _ 0 false (by intro h;cases h) rfl rfl rfl rfl rfl rfl rfl)
  |some p=>
   rw[LU] at tT;refine jT fun K hK=>?_;refine b6 (tT _) ?_;rintro r s1 ⟨rfl,rfl⟩;refine jM ?_;exact hK _ _ (h0 _ p.1 true (fun _=>zL) rfl rfl rfl rfl rfl rfl rfl)
theorem Co(hG:Γ 3=lQ.map uU)(t:List cH)(oi:eJ t)(skip:List Int)(QD:skip.length<=2^61):∀(l n:Nat),lv n=l->n<63->n+2^l<=t.length->
  ∀(s0 s:AS)(x:AV)(k:Nat)(cs:List AV),il 1 s0 s x k cs->s0.le s->k+33*2^l<=100000->
  dS prog Γ 124 [eA t,.v (.int .i64 n),ea skip .any,x] s (Wp s0 k cs (lU t skip l n)):=by
 intro l;induction l with
 |zero=>
  intro n hl hn hs s0 s x k cs hx hle hk;exact sg hG t oi skip QD n hn (by have :(2:Nat)^0=1:=rfl;omega) (.inl (wh hn hl)) s0 s x k cs hx hle (by have :(2:Nat)^0=1:=rfl;omega)
 |succ l ih=>
  intro n hl hn hs s0 s x k cs hx hle hk;have Al:0<2^l:=Nat.two_pow_pos l;have SF:2^(l+1)=2^l+2^l:=(by rw[cj];omega);have hi:n<t.length:=oM;by_cases k0:(nd t n).kind=0
  ·have iz:lU t skip (l+1) n=lU t skip l (n-2^l)++lU t skip l (n+2^l):=(by simp only[lU];exact if_pos k0);rw[iz];refine xH func124 ntmps124 results124 ?_;obtain⟨LU,QU,CM,Cw,LI,UI⟩:=se hn hl;have tT:=fun s=>nU (Γ:=Γ) hG (n:Int) oM s;have hrc:=fun s=>su (Γ:=Γ) hG (n:Int) oM s;rw[LU] at tT hrc;have xc9:=mZ oi skip l (n-2^l);have h1:=fun s hle=>ih (n-2^l) QU oM oM s0 s x k cs hle;have h2:=fun s r hx=>ih (n+2^l) CM Cw oM s0 s r (k+(lU t skip l (n-2^l)).length) (cs++(lU t skip l (n-2^l)).map ed) hx;have gO:=gL hi;clear ih iz;generalize lU t skip l (n-2^l)=L1 at *
   generalize lU t skip l (n+2^l)=L2 at *
   generalize nd t n=N at *
   unfold eA at *
   generalize eb cH.cells t=X at *
   obtain⟨nk,nm,ny,pH,nu⟩:=N;unfold cH.cells at gO;unfold ea at *
   simp only at k0;subst k0;have gC:(0:Int)<=(n:Int):=oM;refine jA ?_;refine ev 9 dM ?_;intro K hK;simp only[↓DM,eZ,DX,↓DN,Qa,Qb,Qc,Qd,Qe,Qf,Qg,Qh,seval,TT,dB,hi,gC,gO];intro o1 yp;refine hK _ _ o1 _ rfl yp ?_;clear hK K yp;refine jK (tT _) ?_;rintro s1 rfl;refine nF fun K1 iW=>?_;refine jA ?_;refine jE<|jK (hrc _) ?_;rintro s2 rfl;refine jQ fun K hK=>?_;refine b6 (h1 _ hx hle oM) ?_;rintro r s3 ⟨hx3,mi⟩;refine jM ?_;refine b6 (h2 _ _ hx3 mi oM) ?_;rintro r2 s4 ⟨hx4,ie⟩;refine jR hK ?_;refine jI ?_;refine⟨_,_,AV.dV.refl _,AS.le.refl _,?_,ie⟩;rw[ai,aH,<-cK,<-bj];exact hx4
  ·have iz:lU t skip (l+1) n=p6 skip (nd t n) n++n9 skip (nd t n).nS:=(by simp only[lU];exact if_neg k0);rw[iz];exact sg hG t oi skip QD n hn hi (.inr k0) s0 s x k cs hx hle oM
theorem oQ(hG:Γ 3=lQ.map uU)(t:List cH)(ht:iD t)(x:Int)(skip:List Int)(QD:skip.length<=2^61)(s:AS):
  aI prog Γ 61 [eA t,.v (.int .i64 x),ea skip .any] s (ea (ff t x skip) .any):=by
 refine xH func61 ntmps61 results61 ?_;have hr:=fun s=>pc (Γ:=Γ) hG t ht s;have hh:=fun(oi:eJ t)n hn hs s=>Co (Γ:=Γ) hG t oi skip QD (lv n) n rfl hn hs s s eW 0 [] (il.nil _ _ _) (AS.le.refl _);have nD:=ht.1;have uS:¬(0<=x∧x<(t.length:Int)∧eJ t)->ff t x skip=[]:=fun h=>if_neg h;have Eu:0<=x∧x<(t.length:Int)∧eJ t->ff t x skip=lU t skip (lv x.toNat) x.toNat:=fun h=>if_pos h;unfold eA at *
 generalize eb cH.cells t=X at *
 unfold eW at hh;refine yd fun K hK=>?_;by_cases h0:x<0
 ·refine jB (dT h0) ?_;refine mS ?_;refine⟨_,_,AV.eh (sz:=1),AS.le.refl _,?_,rfl⟩;rw[uS (fun k=>oM)];rfl
 ·by_cases h1:(t.length:Int)<=x
  ·refine jB (Ai (dF h0) (dT h1)) ?_;refine mS ?_;refine⟨_,_,AV.eh (sz:=1),AS.le.refl _,?_,rfl⟩;rw[uS (fun k=>oM)];rfl
  ·refine jS (Ai (dF h0) (dF h1)) fun K hK=>?_;refine b6 (hr _) ?_;rintro r s1 ⟨rfl,rfl⟩;by_cases oi:eJ t
   ·rw[dT oi];refine jR hK ?_;clear hK K;refine gW ?_;refine hK _ _ ?_;clear hK K;obtain⟨n,rfl⟩:=ba (show 0<=x by omega);have hn:n<t.length:=oM;obtain⟨lA,oq⟩:=oi.span hn;have Cu:=rX (rW n);refine jQ fun K hK=>?_;refine b6 (hh oi n oq lA _ oM) ?_;rintro r s2 ⟨hx,hle⟩;refine jR hK ?_;clear hK K;refine jI ?_;refine⟨_,_,hx.dV,hle,?_,rfl⟩;rw[Eu ⟨oM,oM,oi⟩,aC];unfold ea;rw[bf,aP]
   ·rw[dF oi];refine jR hK ?_;refine mS ?_;refine⟨_,_,AV.eh (sz:=1),AS.le.refl _,?_,rfl⟩;rw[uS (fun k=>oi k.2.2)];rfl
theorem GW(l:List Int)(v:Int)(hl:l.length<=2^61)(s:AS):aI prog Γ 23 [ea l .any,.v (.int .i64 v)] s (.v (.bool (decide (v∈l)))):=by
 refine xH func23 ntmps23 results23 ?_;unfold ea;refine Q2 fun K hK=>?_;refine dU (fun E s2=>∃i:Nat,i<=l.length∧v∉l.take i∧E 5=.v (.int .i64 i)∧E 0=.sl 1 l.length (l.map ed) .any∧E 1=.v (.int .i64 v)∧s2=s)
  (fun E _=>match E 5 with |.v (.int _ i)=>l.length-i.toNat|_=>0) ?_ ?_
 ·exact⟨0,aA _,sM,rfl,rfl,rfl,rfl⟩
 ·rintro E1 s2 ⟨i,hi,hv,g5,g0,g1,rfl⟩ -
  refine wK fun K2 eH=>?_;by_cases et:i<l.length
  ·refine jB (Ai @g5 (Ai @g0 (Ai @dB (dT et)))) ?_;refine ue ?_;refine eH _ _<|nF fun K3 eX=>?_;have gO:=jt et;have gC:(0:Int)<=(i:Int):=oM;have rI:l[i]∈l:=bg et;have ir:l.take (i+1)=l.take i++[l[i]]:=af et;generalize l[i]=u at *
   by_cases hq:u=v
   ·refine jB (Ai @g0 (Ai @g1 (Ai @g5 (Ai @dB (Ai @et (Ai @gC (Ai @gO (Ai @ed.eq_1 (qZ hq))))))))) ?_;refine mS ?_;rw[dT (by rw[<-hq];exact rI)];exact jW ⟨rfl,rfl⟩
   ·refine jB (Ai @g0 (Ai @g1 (Ai @g5 (Ai @dB (Ai @et (Ai @gC (Ai @gO (Ai @ed.eq_1 (pt hq))))))))) ?_;refine gW ?_;simp only[dn,dJ,if_true,if_false];refine eX _ _<|jD (Ai @g5 (eK i oM)) ?_;refine⟨⟨i+1,oM,?_,rfl,g0,g1,rfl⟩,?_⟩
    ·rw[ir,List.mem_append,List.mem_singleton];rintro(h|h)
     ·exact hv h
     ·exact hq h.symm
    ·simp only[g5,dY,↓reduceIte];omega
  ·refine jB (Ai @g5 (Ai @g0 (Ai @dB (dF et)))) ?_;refine sI ?_;simp only[dJ,dn,if_true];refine hK _ _ ?_;rw[ad oM] at hv;refine wq ?_;rw[dF hv];exact jW ⟨rfl,rfl⟩
theorem pG(t:List cH)(oi:eJ t)(skip:List Int)(QD:skip.length<=2^61)(n:Nat)(Po:n<63)(hi:n<t.length)(zL:(nd t n).kind≠0)(s:AS):
  dS prog Γ 26 [eA t,.v (.int .i64 n),ea skip .any] s (Wp s 0 [] (p6 skip (nd t n) n++n9 skip (nd t n).nS)):=by
 refine xH func26 ntmps26 results26 ?_;have tT:=fun s=>hM (Γ:=Γ) (n:Int) oM s;have Jf:=fun v s=>GW (Γ:=Γ) skip v QD s;have gO:=gL hi;have hur:=sT (oi.nd n);have wY:=wj skip (nd t n) n;have xhh:=oN (oi.nd n);have rC:p6 skip (nd t n) n=if((nd t n).kind=1∧((n/2:Nat):Int)∉skip)∨(nd t n).kind=2 then[(n:Int)] else[]:=rfl
 generalize p6 skip (nd t n) n=SL at *
 generalize nd t n=N at *
 unfold eA;generalize eb cH.cells t=X at *
 obtain⟨nk,nm,ny,pH,nu⟩:=N;unfold cH.cells at gO;unfold ea at gO Jf⊢;simp only at hur rC zL xhh;have gC:(0:Int)<=(n:Int):=oM;refine jA ?_;refine ev 7 dM ?_;intro K hK;simp only[↓DM,eZ,DX,↓DN,Qa,Qb,Qc,Qd,Qe,Qf,Qg,Qh,seval,TT,dB,hi,gC,gO];intro o1 h1;refine hK _ _ o1 _ rfl h1 ?_;clear hK K h1;refine wK fun K0 xy=>?_;have h0:∀(E:Env),E 1=.v (.int .i64 n)->E 2=.sl 1 skip.length (skip.map ed) .any->E 7=.ij [.v (.int .i64 nk),.sl 1 nm.length (nm.map cU) .any,.v (.int .u64 ny),.sl 1 pH.length (pH.map cU) .any,.sl 1 nu.length (nu.map ed) .any]->K0 E s:=by
  intro E g1 g2 g7;refine xy _ _ ?_;clear xy K0;refine wK fun K1 iW=>jB (Ai @g7 (pt zL)) ?_;refine gW ?_;refine iW _ _<|yd fun K2 eH=>?_;have h2:∀(E:Env)(s1:AS)(x1:AV),E 2=.sl 1 skip.length (skip.map ed) .any->E 7=.ij [.v (.int .i64 nk),.sl 1 nm.length (nm.map cU) .any,.v (.int .u64 ny),.sl 1 pH.length (pH.map cU) .any,.sl 1 nu.length (nu.map ed) .any]->E 11=x1->il 1 s s1 x1 SL.length (SL.map ed)->s.le s1->K2 E s1:=by
   clear g1 g2 g7;intro E s1 x1 g2 g7 g11 hx hle;refine eH _ _ ?_;clear eH K2;refine Jc fun K3 eX=>?_;refine dU (fun E s2=>∃(i:Nat)(x2:AV),i<=nu.length∧E 12=.v (.int .i64 i)∧E 7=.ij [.v (.int .i64 nk),.sl 1 nm.length (nm.map cU) .any,.v (.int .u64 ny),.sl 1 pH.length (pH.map cU) .any,.sl 1 nu.length (nu.map ed) .any]∧E 2=.sl 1 skip.length (skip.map ed) .any∧E 11=x2∧il 1 s s2 x2 (SL.length+(n9 skip (nu.take i)).length) (SL.map ed++(n9 skip (nu.take i)).map ed)∧s.le s2)
    (fun E _=>match E 12 with |.v (.int _ i)=>nu.length-i.toNat|_=>0) ?_ ?_
   ·refine⟨0,x1,aA _,rfl,g7,g2,g11,?_,hle⟩;have :n9 skip (nu.take 0)=[]:=(by simp[n9]);rw[this];simpa using hx
   ·clear g2 g7 g11 hx hle;rintro E2 s2 ⟨i,x2,et,g12,g7,g2,g11,hx,hle⟩ -
    refine wK fun K4 jm=>?_;by_cases CB:i<nu.length
    ·refine jB (Ai @g12 (Ai @g7 (Ai @dB (dT CB)))) ?_;refine ue ?_;refine jm _ _<|nF fun K5 mE=>?_;have TM:(0:Int)<=(i:Int):=oM;have NR:=jt CB;have hub:=hur.2 nu[i] (bg CB);have QV:=GI (skip:=skip) CB;have hlen:=zx skip (nu.take i);have fB:(nu.take i).length=i:=(by rw[aV];omega);generalize nu[i]=u at *
     have fu:∀(E:Env)(s3:AS)(x3:AV),E 12=.v (.int .i64 i)->E 7=.ij [.v (.int .i64 nk),.sl 1 nm.length (nm.map cU) .any,.v (.int .u64 ny),.sl 1 pH.length (pH.map cU) .any,.sl 1 nu.length (nu.map ed) .any]->E 2=.sl 1 skip.length (skip.map ed) .any->E 11=x3->il 1 s s3 x3 (SL.length+(n9 skip (nu.take (i+1))).length) (SL.map ed++(n9 skip (nu.take (i+1))).map ed)->s.le s3->K5 E s3:=by
      intro E s3 x3 f12 f7 f2 f11 fx Dx;refine mE _ _ ?_;clear mE K5;refine jD (Ai @f12 (eK i oM)) ?_;refine⟨⟨i+1,x3,oM,rfl,f7,f2,f11,fx,Dx⟩,?_⟩;simp only[g12,dY,↓reduceIte];omega
     clear mE;rw[QV] at fu;generalize n9 skip (nu.take i)=F at *
     generalize hCS:SL.map ed=CS at *
     refine jS (Ai @g2 (Ai @g7 (Ai @g12 (Ai @dB (Ai @CB (Ai @TM (Ai @NR @ed.eq_1))))))) fun K hK=>?_;refine b6 (Jf _ _) ?_;rintro r s3 ⟨rfl,rfl⟩;by_cases hs:u∈skip
     ·rw[dT hs];rw[if_neg (fun q=>q hs),bN] at fu;refine jR hK ?_;clear hK K;refine gW ?_;simp only[dn,dJ,if_true,if_false];exact fu _ _ _ g12 g7 g2 g11 hx hle
     ·rw[dF hs];rw[if_pos hs] at fu;have e2:mF .i64 2 u=2*u:=iv oM;rw[ai,List.length_singleton,aH,aG,bF,<-cK,<-bj] at fu;refine jR hK ?_;refine jE ?_;rcases hx with⟨rfl,lu,yS⟩|⟨t',e,rfl,ta,mg⟩
      ·refine wE fun K hK=>?_;simp only[↓DN,Qa,Qb,Qc,Qd,Qe,Qf,Qg,Qh,seval,TT,g11,g7,g12,dB,CB,TM,NR,ed,e2,eW,av];intro t' ta;refine hK _ _ ?_;simp only[dn,dJ,if_true,if_false];rw[lu,yS] at fu;exact fu _ _ (.sl 1 1 [.v (.int .i64 (2*u))] (.own t' 0)) g12 g7 g2 rfl (.inr ⟨t',0,rfl,by simp[AS.eT],eC hle ta⟩) (AS.eE hle (eC hle ta) 0)
      ·refine wE fun K hK=>?_;simp only[↓DN,Qa,Qb,Qc,Qd,Qe,Qf,Qg,Qh,seval,TT,g11,g7,g12,dB,CB,TM,NR,ed,e2,ta,av];refine⟨oM,oM,hK _ _ ?_⟩;simp only[dn,dJ,if_true,if_false];exact fu _ _ (.sl 1 (SL.length+F.length+1) (CS++(F.map ed++[.v (.int .i64 (2*u))])) (.own t' (e+1))) g12 g7 g2 rfl (.inr ⟨t',e+1,by rw[bj];rfl,by simp[AS.eT],mg⟩) (AS.eE hle mg (e+1))
    ·refine jB (Ai @g12 (Ai @g7 (Ai @dB (dF CB)))) ?_;refine sI ?_;simp only[dJ,dn,if_true];refine eX _ _ ?_;rw[ad oM] at hx;refine jB @g11 ?_;refine jI ?_;refine⟨_,_,AV.dV.refl _,AS.le.refl _,?_,hle⟩;rw[ai,aH,bf,aP];exact hx
  clear eH;by_cases hb:(nk=1∧((n/2:Nat):Int)∉skip)∨nk=2
  ·rw[if_pos hb] at rC;subst rC;have VZ:∀(E:Env),E 1=.v (.int .i64 n)->E 2=.sl 1 skip.length (skip.map ed) .any->E 7=.ij [.v (.int .i64 nk),.sl 1 nm.length (nm.map cU) .any,.v (.int .u64 ny),.sl 1 pH.length (pH.map cU) .any,.sl 1 nu.length (nu.map ed) .any]->E 11=.v (.slice none 0 0)->E 46=.v (.bool true)->True:=fun _ _ _ _ _ _=>trivial;clear VZ;by_cases k2:nk=2
   ·refine jB (Ai @g7 (qZ k2)) ?_;refine jE<|wE fun K hK=>?_;simp only[↓DN,Qa,Qb,Qc,Qd,Qe,Qf,Qg,Qh,seval,TT,g1,av];intro t' ta;exact hK _ _ (h2 _ _ (.sl 1 1 [.v (.int .i64 (n:Int))] (.own t' 0)) g2 g7 rfl (.inr ⟨t',0,rfl,by simp[AS.eT],ta⟩) (AS.eE (AS.le.refl _) ta 0))
   ·have hs:((n/2:Nat):Int)∉skip:=(hb.resolve_right k2).2;refine jS (Ai @g7 (Ai (pt k2) (Ai @g1 (Ai @g2 (Ai @qh (iI n oM)))))) fun K hK=>?_;refine b6 (Jf _ _) ?_;rintro r s1 ⟨rfl,rfl⟩;rw[dF hs];refine jR hK ?_;refine jE<|wE fun K hK=>?_;simp only[↓DN,Qa,Qb,Qc,Qd,Qe,Qf,Qg,Qh,seval,TT,g1,av];intro t' ta;exact hK _ _ (h2 _ _ (.sl 1 1 [.v (.int .i64 (n:Int))] (.own t' 0)) g2 g7 rfl (.inr ⟨t',0,rfl,by simp[AS.eT],ta⟩) (AS.eE (AS.le.refl _) ta 0))
  ·rw[if_neg hb] at rC;subst rC;have k2:nk≠2:=fun q=>hb (.inr q);have k1:nk=1:=oM;have hs:((n/2:Nat):Int)∈skip:=by
    by_cases q:((n/2:Nat):Int)∈skip
    ·exact q
    ·exact absurd (.inl ⟨k1,q⟩) hb
   refine jS (Ai @g7 (Ai (pt k2) (Ai @g1 (Ai @g2 (Ai @qh (iI n oM)))))) fun K hK=>?_;refine b6 (Jf _ _) ?_;rintro r s1 ⟨rfl,rfl⟩;rw[dT hs];refine jR hK ?_;refine gW ?_;exact h2 _ _ (.v (.slice none 0 0)) g2 g7 rfl (il.nil _ _ _) (AS.le.refl _)
 clear xy;cases LU:mD (n:Int) with
 |none=>
  rw[LU] at tT;refine jT fun K hK=>?_;refine b6 (tT _) ?_;rintro r s1 ⟨rfl,rfl⟩;refine jM ?_;exact hK _ _ (h0 _ rfl rfl rfl)
 |some p=>
  rw[LU] at tT;refine jT fun K hK=>?_;refine b6 (tT _) ?_;rintro r s1 ⟨rfl,rfl⟩;refine jM ?_;exact hK _ _ (h0 _ rfl rfl rfl)
theorem x8(t:List cH)(oi:eJ t)(skip:List Int)(QD:skip.length<=2^61):∀(l n:Nat),lv n=l->n<63->n+2^l<=t.length->
  ∀(s:AS),dS prog Γ 26 [eA t,.v (.int .i64 n),ea skip .any] s (Wp s 0 [] (lU t skip l n)):=by
 intro l;induction l with
 |zero=>
  intro n hl hn hs s;have hi:n<t.length:=(by have :(2:Nat)^0=1:=rfl;omega);by_cases k0:(nd t n).kind=0
  ·have hN:=(qY k0).1 (oi.nd n);have iz:lU t skip 0 n=[]:=by
    simp only[lU];rw[hN];simp[p6,n9,cH.nr]
   rw[iz];refine xH func26 ntmps26 results26 ?_;have tT:=fun s=>hM (Γ:=Γ) (n:Int) oM s;rw[wh hn hl] at tT;have gO:=gL hi;rw[hN] at gO;unfold eA;generalize eb cH.cells t=X at *
   unfold cH.nr cH.cells at gO;unfold ea at *
   simp only at gO;have gC:(0:Int)<=(n:Int):=oM;refine jA ?_;refine ev 7 dM ?_;intro K hK;simp only[↓DM,eZ,DX,↓DN,Qa,Qb,Qc,Qd,Qe,Qf,Qg,Qh,seval,TT,dB,hi,gC,gO];intro o1 h1;refine hK _ _ o1 _ rfl h1 ?_;clear hK K h1;refine jK (tT _) ?_;rintro s1 rfl;refine xKz fun K hK=>?_;refine xKy fun K2 eH=>?_;exact jW ⟨il.nil _ _ _,AS.le.refl _⟩
  ·have iz:lU t skip 0 n=p6 skip (nd t n) n++n9 skip (nd t n).nS:=rfl;rw[iz];exact pG t oi skip QD n hn hi k0 s
 |succ l ih=>
  intro n hl hn hs s;have Al:0<2^l:=Nat.two_pow_pos l;have SF:2^(l+1)=2^l+2^l:=(by rw[cj];omega);have hi:n<t.length:=oM;by_cases k0:(nd t n).kind=0
  ·have iz:lU t skip (l+1) n=lU t skip l (n-2^l)++lU t skip l (n+2^l):=(by simp only[lU];exact if_pos k0);rw[iz];refine xH func26 ntmps26 results26 ?_;obtain⟨LU,QU,CM,Cw,LI,UI⟩:=se hn hl;have tT:=fun s=>hM (Γ:=Γ) (n:Int) oM s;rw[LU] at tT;have xc9:=mZ oi skip l (n-2^l);have xiS:=mZ oi skip l (n+2^l);have h1:=fun s=>ih (n-2^l) QU oM oM s;have h2:=fun s=>ih (n+2^l) CM Cw oM s;have gO:=gL hi;clear ih iz;generalize lU t skip l (n-2^l)=L1 at *
   generalize lU t skip l (n+2^l)=L2 at *
   generalize nd t n=N at *
   unfold eA at *
   generalize eb cH.cells t=X at *
   obtain⟨nk,nm,ny,pH,nu⟩:=N;unfold cH.cells at gO;unfold ea at *
   simp only at k0;subst k0;have gC:(0:Int)<=(n:Int):=oM;refine jA ?_;refine ev 7 dM ?_;intro K hK;simp only[↓DM,eZ,DX,↓DN,Qa,Qb,Qc,Qd,Qe,Qf,Qg,Qh,seval,TT,dB,hi,gC,gO];intro o1 yp;refine hK _ _ o1 _ rfl yp ?_;clear hK K yp;refine jK (tT _) ?_;rintro s1 rfl;refine xKz fun K hK=>?_;refine Q3 fun K2 eH=>?_;refine eH _ _<|jQ fun K hK=>?_;refine b6 (h1 _) ?_;rintro r s3 ⟨hx3,mi⟩;rw[bf,aP] at hx3;refine jM ?_;refine b6 (h2 _) ?_;rintro r2 s4 ⟨hx4,ie⟩;rw[bf,aP] at hx4;have hle:=mi.trans ie;have hR:∀(r:AV)(s':AS),il 1 s1 s' r (L1.length+L2.length) (L1.map ed++L2.map ed)->s1.le s'->Wp s1 0 [] (L1++L2) r s':=by
    intro r s' h1 h2;unfold Wp;rw[bf,aP,ai,aH];exact⟨h1,h2⟩
   rcases hx3 with⟨rfl,lu,yS⟩|⟨t',e,rfl,ta,mg⟩
   ·rcases hx4 with⟨rfl,hj0,hM0⟩|⟨t2,e2,rfl,VU,xhk⟩
    ·simp only[↓DM,eZ,DX,↓DN,Qa,Qb,Qc,Qd,Qe,Qf,Qg,Qh,seval,TT,eW];refine hK _ _ ?_;clear hK K;refine jI ?_;refine⟨_,_,AV.dV.refl _,AS.le.refl _,hR _ _ ?_ hle⟩;rw[lu,hj0,yS,hM0];exact il.nil _ _ _
    ·simp only[↓DM,eZ,DX,↓DN,Qa,Qb,Qc,Qd,Qe,Qf,Qg,Qh,seval,TT,eW];by_cases hz:L2.length=0
     ·rw[if_pos hz];refine hK _ _ ?_;clear hK K;refine jI ?_;refine⟨_,_,AV.dV.refl _,AS.le.refl _,hR _ _ ?_ hle⟩;rw[lu,hz,yS,al hz];exact il.nil _ _ _
     ·rw[if_neg hz];refine⟨oM,oM,?_⟩;intro t5 ht5;refine hK _ _ ?_;clear hK K;refine jI ?_;refine⟨_,_,AV.dV.refl _,AS.le.refl _,hR _ _ ?_ (AS.eE hle (eC hle ht5) 0)⟩;rw[lu,yS,bf,aP];exact .inr ⟨t5,0,rfl,by simp[AS.eT],eC hle ht5⟩
   ·rcases hx4 with⟨rfl,hj0,hM0⟩|⟨t2,e2,rfl,VU,xhk⟩
    ·simp only[↓DM,eZ,DX,↓DN,Qa,Qb,Qc,Qd,Qe,Qf,Qg,Qh,seval,TT,eW,ie.own _ _ ta];refine hK _ _ ?_;clear hK K;refine jI ?_;refine⟨_,_,AV.dV.refl _,AS.le.refl _,hR _ _ ?_ hle⟩;rw[hj0,hM0,Nat.add_zero,bN];exact .inr ⟨t',e,rfl,ie.own _ _ ta,mg⟩
    ·refine jN (ie.own _ _ ta) ?_;by_cases hz:L2.length=0
     ·rw[if_pos hz];refine hK _ _ ?_;clear hK K;refine jI ?_;refine⟨_,_,AV.dV.refl _,AS.le.refl _,hR _ _ ?_ hle⟩;rw[hz,al hz,bF,Nat.add_zero,bN];exact .inr ⟨t',e,rfl,ie.own _ _ ta,mg⟩
     ·rw[if_neg hz];refine⟨oM,oM,by simp[aB,ed,AV.one],?_⟩;refine hK _ _<|jI ?_;refine⟨_,_,AV.dV.refl _,AS.le.refl _,hR _ _ ?_ (AS.eE hle mg (e+1))⟩;exact .inr ⟨t',e+1,rfl,by simp[AS.eT],mg⟩
  ·have iz:lU t skip (l+1) n=p6 skip (nd t n) n++n9 skip (nd t n).nS:=(by simp only[lU];exact if_neg k0);rw[iz];exact pG t oi skip QD n hn hi k0 s
def II(s s':AS)(r:AV)(l:List Int):Prop:=sH 1 s' r l.length (l.map ed)∧(∀o,BR r=some o->s.dD o=none)∧s.le s'
theorem ED(s:AS):dS prog Γ 191 [eW] s (fun r s'=>II s s' r []):=by
 refine xH func191 ntmps191 results191 ?_;unfold eW;refine xKw fun K hK=>?_;refine mS ?_;exact⟨_,_,AV.dV.refl _,AS.le.refl _,.inl ⟨rfl,rfl,.inl rfl⟩,(fun o h=>by cases h),AS.le.refl _⟩
theorem FY(l:List Int)(s:AS)(hl:l.length<=2^42):dS prog Γ 191 [ea l .no] s (fun r s'=>II s s' r l):=by
 refine xH func191 ntmps191 results191 ?_;unfold ea;refine yd fun K hK=>?_;refine jB @and_false ?_;refine gW ?_;refine hK _ _ ?_;by_cases h0:l.length=0
 ·have zX:l=[]:=al h0;subst zX;refine wq ?_;exact⟨_,s,AV.dV.refl _,AS.le.refl s,.inl ⟨rfl,rfl,.inr (.inr rfl)⟩,(fun o h=>by cases h),AS.le.refl _⟩
 ·refine Bw rfl dM ?_;intro ops;refine jM ?_;refine⟨_,fun G a w hr=>nR (n:=0) (m:=l.length) (cs:=[]) (ds:=l.map ed) (e:=3) (z:=[.v (.int .i64 0)]) rfl underlying24 (by simp only[↓DN,Qa,Qb,Qc,Qd,Qe,Qf,Qg,Qh,seval,TT];try rfl) (by simp only[↓DN,Qa,Qb,Qc,Qd,Qe,Qf,Qg,Qh,seval,TT];try rfl) (by rw[T.c3];decide) (by rw[T.c3];rfl) (by simp only[↓DN,Qa,Qb,Qc,Qd,Qe,Qf,Qg,Qh,seval,TT,nL,ef,dY,Nc,↓reduceIte]) h0 (by rw[T.b3];omega) oM (by simp[aB,ed,AV.one]) (by rw[T.c3];exact .inl ⟨rfl,rfl,.inr (.inr rfl)⟩) hr.eval hr.st,?_⟩;rw[T.c3];rintro r s1 ⟨ob,cap,rest,rfl,mV,I6,Ax,sr,rfl⟩;refine jM ?_;refine jI ?_;have sr:s.dD ob=none:=by
   rcases sr with h|⟨_,h⟩
   ·exact h
   ·simp[ef,dY] at h
  rw[bf,Nat.mul_one] at *
  refine⟨_,_,AV.dV.refl _,AS.le.refl _,.inr ⟨ob,cap,rest,rfl,AS.bG _ _ _,sM,by rw[Nat.mul_one];exact Ax,mV,I6⟩,fun o h=>?_,AS.dW (AS.le.refl s) sr _⟩;cases h;exact sr
theorem A8(l:List Int)(s:AS)(hl:l.length<=2^42):dS prog Γ 191 [ea l .any] s (fun r s'=>II s s' r l):=
 dS.anyS (post:=[]) (fun e _=>by obtain rfl:l=[]:=al e;exact ED s) (FY l s hl)
theorem A9(N:cH)(hm:N.name.length<=2^45)(hp:N.parent.length<=2^45)(hu:N.nS.length<=2^42)(s:AS):dS prog Γ 156 [.agg N.cells] s (fun r s'=>∃x,r=.agg (mP (N,x))∧II s s' x N.nS):=by
 refine xH func156 ntmps156 results156 ?_;unfold cH.cells;obtain⟨k,m,y,pa,u⟩:=N;simp only at hp hu hm;refine jS @ea.eq_1 fun K hK=>?_;intro o1 yp o2 tj;have OQ:o2≠o1:=by
  rintro rfl;simp[AS.set] at tj
 have FD:=OQ.symm;have h20:s.dD o2=none:=(by simpa[AS.set,dY,OQ] using tj);refine hK _ _<|iT T.mixed [(o1,[.v (.int .i64 k),.sl 1 m.length (m.map cU) .any,.v (.int .u64 y),.sl 1 pa.length (pa.map cU) .any,.sl 1 u.length (u.map ed) .any])] [2,5,8] [1,4,7] [10,12,14] kM (by simp only[dZ,ec,and_true];simp[AS.set,dY,FD,OQ]) ?_;intro K hK;simp only[↓eN,↓eD,gY,gS,eg,ej,dZ,ec,aE,aL,List.contains_cons,List.contains_nil,au,Bool.or_false,Bool.or_true,Bool.or_self,Bool.false_or,↓DN,Qa,Qb,Qc,Qd,Qe,Qf,Qg,Qh,seval,TT,OQ,FD];refine b6 (mn m _ oM) ?_;rintro r s' ⟨rfl,rfl⟩;simp only[↓fM,↓fi,eZ,↓eN,↓eD,gY,gS,eg,ej,dZ,ec,aE,aL,DX,au,↓DN,Qa,Qb,Qc,Qd,Qe,Qf,Qg,Qh,seval,TT,OQ,FD];refine b6 (mn pa _ hp) ?_;rintro r s' ⟨rfl,rfl⟩;simp only[↓fM,↓fi,eZ,↓eN,↓eD,gY,gS,eg,ej,dZ,ec,aE,aL,DX,au,↓DN,Qa,Qb,Qc,Qd,Qe,Qf,Qg,Qh,seval,TT,OQ,FD];refine b6 (A8 u _ hu) ?_;rintro r s' ⟨hb,qL,hle⟩;have q1:s'.dD o1=some [.v (.int .i64 k),.sl 1 m.length (m.map cU) .any,.v (.int .u64 y),.sl 1 pa.length (pa.map cU) .any,.sl 1 u.length (u.map ed) .any]:=hle.dD _ _ (by simp[AS.set,dY,FD]);have q2:s'.dD o2=some [.v (.int .i64 0),.v (.slice none 0 0),.v (.int .u64 0),.v (.slice none 0 0),.v (.slice none 0 0)]:=hle.dD _ _ (AS.bG _ _ _);have hs:s.le s':=(AS.dW (AS.dW (AS.le.refl s) yp _) h20 _).trans hle;have n1:BR r≠some o1:=(fun e=>by have:=qL o1 e;simp[AS.set,dY,FD] at this);have n2:BR r≠some o2:=(fun e=>by have:=qL o2 e;simp[AS.set] at this);have n0:∀o,BR r=some o->s.dD o=none:=fun o e=>AS.le_none (AS.dW (AS.dW (AS.le.refl s) yp _) h20 _) (qL o e);have pL:r.one=true:=by
  rcases hb with⟨_,_,rfl|rfl|rfl⟩|⟨_,_,_,rfl,_⟩<;>rfl
 have hcell:r.cells=[r]:=by
  rcases hb with⟨_,_,rfl|rfl|rfl⟩|⟨_,_,_,rfl,_⟩<;>rfl
 unfold AV.cells at hcell;unfold AV.one at pL;simp only[↓fM,↓fi,eZ,↓eN,↓eD,gY,gS,eg,ej,dZ,ec,aE,aL,DX,au,↓DN,Qa,Qb,Qc,Qd,Qe,Qf,Qg,Qh,seval,TT,q1,q2,hcell,OQ,FD,ea,pL];refine hK _ _<|jB (Ai @q1 (Ai @q2 (Ai @hcell (Ai @OQ (Ai @FD (Ai @ea.eq_1 @pL)))))) ?_;refine eF ?_;refine kJ (o:=o2) (off:=0) rfl (AS.bG _ _ _) (by rw[T.HQ];decide) (by simp only[↓DN,Qa,Qb,Qc,Qd,Qe,Qf,Qg,Qh,seval,TT];rfl) ?_;refine⟨_,_,AV.dV.refl _,AS.le.refl _,r,rfl,?_,n0,?_⟩
 ·first |exact((((hb.sB n1).sB n1).sB n1).sB n2)|exact((hb.sB n1).sB n2)
 ·first |exact AS.dW (AS.dW (AS.dW (AS.dW hs yp _) yp _) yp _) h20 _|exact AS.dW (AS.dW hs yp _) h20 _
theorem QE(a b c d e:AV):rF 5 [a,b,c,d,e]=[a,b,c,d,e]:=rfl
theorem ux.leR{s0 s s':AS}{X:AV}{TS:List (cH×AV)}(h:ux s0 s X TS)(k:s.le s'):ux s0 s' X TS:=
 ⟨⟨fun p hp=>(h.xs.buf p hp).le k,h.xs.new,h.xs.sep⟩,h.le.trans k,h.row.le k,h.Wi,h.ZX⟩
def sR(n:cH):Prop:=n.name.length<=2^45∧n.parent.length<=2^45∧n.nS.length<=2^42
theorem FZ(t:List cH)(ht:t.length<=2^30)(hw:∀n∈t,sR n)(s:AS):dS prog Γ 109 [eA t] s (fun r s'=>∃TS,TS.map (·.1)=t∧ux s s' r TS):=by
 refine xH func109 ntmps109 results109 ?_
 have gO:=fun i(h:i<t.length)=>gL (t:=t) h
 have hnW:∀i(h:i<t.length),sR (nd t i):=fun i h=>by rw[xQ h];exact hw _ (bg h)
 have ir:∀i(h:i<t.length),t.take (i+1)=t.take i++[nd t i]:=fun i h=>by rw[af h,xQ h]
 unfold eA at *
 generalize eb cH.cells t=X at *
 refine jA ?_
 refine jA ?_
 refine wK fun K hK=>?_
 refine jA ?_
 refine dH ?_
 refine dU (fun E s2=>∃(i:Nat)(x:AV)(TS:List (cH×AV)),i<=t.length∧E 8=.v (.int .i64 i)∧E 7=.v (.int .i64 t.length)∧E 6=.sl 5 t.length X .any∧E 3=x∧TS.map (·.1)=t.take i∧ux s s2 x TS)
  (fun E _=>match E 8 with |.v (.int _ i)=>t.length-i.toNat|_=>0) ?_ ?_
 ·exact⟨0,_,[],aA _,by simp only[dY,Nc,↓reduceIte];rfl,by simp only[dY,Nc,↓reduceIte],by simp only[dY,Nc,↓reduceIte],by simp only[dY,Nc,↓reduceIte];rfl,rfl,ux.nil s⟩
 ·rintro E1 s2 ⟨i,x,TS,hi,g8,g7,g6,g3,hT,hx⟩ -
  by_cases et:i<t.length
  ·refine jB (Ai @g8 (Ai @g7 (Ai @dB (dT et)))) ?_
   refine wK fun K2 eH=>?_
   refine jE ?_
   refine dX ?_
   refine eH _ _ ?_
   refine wK fun K3 eX=>?_
   refine dH ?_
   have ou:=gO i et
   have hN:=hnW i et
   have gN:=ir i et
   generalize nd t i=N at *
   have hTl:TS.length=i:=by have:=congrArg List.length hT;simp at this;omega
   have gC:(0:Int)<=((i:Nat):Int):=oM
   obtain⟨nk,nm,ny,pH,nu⟩:=N
   unfold cH.cells at ou
   simp only at ou
   refine ev 5 dM ?_
   intro K hK
   simp only[↓DM,eZ,DX,↓DN,Qa,Qb,Qc,Qd,Qe,Qf,Qg,Qh,seval,TT,g6,g8,dB,et,gC,ou,ea]
   intro o1 h1
   refine hK _ _ o1 _ (by simp only[dY,Nc,↓reduceIte]) h1 ?_
   clear hK K h1
   refine Dp rfl dM ?_
   intro ops
   simp only[↓DM,eZ,DX,↓DN,Qa,Qb,Qc,Qd,Qe,Qf,Qg,Qh,seval,TT,g3]
   refine b6 (A9 ⟨nk,nm,ny,pH,nu⟩ hN.1 hN.2.1 hN.2.2 _) ?_
   rintro r s3 ⟨xn,rfl,hb,qL,mi⟩
   unfold mP at *
   simp only[↓DM,eZ,DX,↓DN,Qa,Qb,Qc,Qd,Qe,Qf,Qg,Qh,seval,TT,g3,QE]
   have pZ:s2.le s3:=mi
   have Cc:sH 5 s3 x i (eb mP TS):=by
    have:=hx.row.le mi
    rwa [hTl] at this
   have pL:xn.one=true:=by
    rcases hb with⟨_,_,rfl|rfl|rfl⟩|⟨_,_,_,rfl,_⟩<;>rfl
   refine⟨_,fun G a w hr=>nR (n:=i) (m:=1) (cs:=eb mP TS) (ds:=mP (⟨nk,nm,ny,pH,nu⟩,xn)) (e:=54) rfl underlying22 (by simp only[↓DN,Qa,Qb,Qc,Qd,Qe,Qf,Qg,Qh,seval,TT];try rfl) T.z54 (by rw[T.HQ];decide) (by rw[T.HQ];rfl) (by rw[T.HQ];simp only[↓DN,Qa,Qb,Qc,Qd,Qe,Qf,Qg,Qh,seval,TT,nL,ef,dY,Nc,↓reduceIte];rfl) dM (by rw[T.b54];omega) oM (by simp only[mP,List.all_cons,List.all_nil,pL];rfl) (by rw[T.HQ];exact Cc) hr.eval hr.st,?_⟩
   rw[T.HQ]
   rintro r s4 ⟨ob,cap,rest,rfl,mV,I6,Ax,sr,rfl⟩
   have xhl:s3.dD ob=none∨∃xx,x=.jd ob 0 5 TS.length xx:=by
    rw[hTl];exact sr
   have Yq:=(ux.leR hx mi).push (p:=(⟨nk,nm,ny,pH,nu⟩,xn)) (ob:=ob) (cap:=cap) (rest:=rest) hb
    (fun o ho=>⟨AS.le_none hx.le (qL o ho),(fun q hq e=>by obtain⟨ds,hd⟩:=(hx.xs.buf q hq).some e;rw[qL o ho] at hd;cases hd),(fun e=>by obtain⟨ds,hd⟩:=hx.row.some e;rw[qL o ho] at hd;cases hd)⟩)
    xhl (by rw[hTl];exact mV) I6 (by rw[hTl];exact Ax)
   rw[hTl,bj] at Yq
   refine jV @g3 eX ?_
   refine jD (Ai @g8 (eK i oM)) ?_
   refine⟨⟨i+1,.jd ob 0 5 (i+1) cap,TS++[(⟨nk,nm,ny,pH,nu⟩,xn)],oM,by simp only[dY,Nc,↓reduceIte],by simp only[dY,g7,Nc,↓reduceIte],by simp only[dY,g6,Nc,↓reduceIte],by simp only[dY,Nc,↓reduceIte],by rw[aH,hT,gN];rfl,Yq⟩,?_⟩
   simp only[g8,dY,↓reduceIte]
   omega
  ·refine jB (Ai @g8 (Ai @g7 (Ai @dB (dF et)))) ?_
   refine wK fun K2 eH=>?_
   refine jF ?_
   refine ep ?_
   simp only[dJ,dn,if_true]
   refine hK _ _ ?_
   obtain rfl:i=t.length:=oM
   refine jB @g3 ?_
   refine jI ?_
   exact⟨_,_,AV.dV.refl _,AS.le.refl _,TS,by rw[hT,List.take_length],hx⟩
end Go.Proofs.YtbiefppedlodiaaGreatDoor
namespace Go.AM
open Go
def xdc(L:Nat)(t:List cH):Prop:=Fit L∧t.length=2*L-1∧
    (∀i,i<2*L-1->(nd t i).right∧((nd t i).kind=0∨((nd t i).kind=1↔i%2=0))∧∀u∈(nd t i).nS,(lo i:Int)<=u∧u<=(hi i:Int)∧0<=u∧u<(L:Int)∧(nd t (2*u.toNat)).kind=1)∧
    (∀a b,a<b->b<L->(nd t (2*a)).kind=1->(nd t (2*b)).kind=1->(nd t (2*b)).name≠(nd t (2*a)).name)
theorem eJ.xgg{t:List cH}(h:eJ t):xdc (ee t) t∧(ee t=1∨∃j,ee t/2<=j∧j<ee t∧(Go.AM.nd t (2*j)).kind=1):=by
  obtain⟨h1,h2⟩:=h.len;obtain⟨k1,k2,k3⟩:=(D1 h2 h1).1 h;exact⟨⟨h2,h1,k1,k2⟩,k3⟩
theorem Em{t:List cH}{name:List UInt8}(h:¬0<=tR t name 0){L:Nat}(hL:Fit L)(hlen:t.length=2*L-1){j:Nat}(hj:j<L)(hk:(nd t (2*j)).kind=1):(nd t (2*j)).name≠name:=by
  intro e;have hl:=NH hL hlen;have hb:=hL.le;have h1:=AZ (fun j=>decide (j0 t j∧(nd t (2*j)).name=name)) (kS t-0) 0;have h2:decide (0<=tR t name 0)=true:=h1.2 ⟨j,aA _,by unfold kS;omega,dT ⟨(ru hl _).2 ⟨hj,hk⟩,e⟩⟩;exact h (of_decide_eq_true h2)
def xdd(key:Nat):Prop:=2<=(key:Int)∧(key:Int)<=2305843009213693949
instance(key:Nat):Decidable (xdd key):=by unfold xdd;infer_instance
open Go Go.RowKit
variable{P:Program}{Γ:Nat->List AV}{s:AS}
theorem N2{α:Type}{c:α->List AV}{l:List α}{u:Nat}(h:u<l.length):eb c l=eb c (l.take u)++c l[u]++eb c (l.drop (u+1)):=by
  have e:l=l.take u++l[u]::l.drop (u+1):=(by rw[List.getElem_cons_drop,List.take_append_drop]);have e2:eb c l=eb c (l.take u++l[u]::l.drop (u+1)):=(by rw[<-e]);rw[e2];simp only[eb,aH,aG,List.flatten_append,List.flatten_cons,bj]
theorem zM{α:Type}{c:α->List AV}{k:Nat}(hk:∀a,(c a).length=k){l:List α}{u:Nat}(h:u<l.length)(a:α)(rest:List AV):eQ (eb c l++rest) (u*k) (c a)=eb c (l.set u a)++rest:=by
  have hl:(eb c (l.take u)).length=u*k:=(by rw[gU hk,aV];congr 1;omega);have e2:eb c (l.set u a)=eb c (l.take u)++c a++eb c (l.drop (u+1)):=by
    rw[List.set_eq_take_append_cons_drop,if_pos h];simp[eb]
  rw[e2,N2 h];rw[Mac.nf _ _ _ (by simp[hk,hl])];have a1:(eb c (l.take u)++c l[u]++eb c (l.drop (u+1))++rest).take (u*k)=eb c (l.take u):=by
    rw[bj,bj,<-hl,List.take_left]
  have a2:(eb c (l.take u)++c l[u]++eb c (l.drop (u+1))++rest).drop (u*k+(c a).length)=eb c (l.drop (u+1))++rest:=by
    have e3:u*k+(c a).length=(eb c (l.take u)++c l[u]).length:=(by rw[ai,hl,hk,hk]);rw[e3,bj _ _ rest,List.drop_left]
  rw[a1,a2];simp
end Go.AM
namespace Go.Proofs.YtbiefppedlodiaaGreatDoor
open Go Go.AM Go.Proofs Tryz
variable{Γ:Nat->List AV}
instance(t:List cH):Decidable (iD t):=by unfold iD;infer_instance
def AU(n:cH):Prop:=n.name.length<=40∧n.parent.length<=60∧n.nS.length<=40
def TP(t:List cH):Prop:=t.length<=63∧∀n∈t,AU n
instance(n:cH):Decidable (AU n):=by unfold AU;infer_instance
instance(t:List cH):Decidable (TP t):=by unfold TP;infer_instance
end Go.Proofs.YtbiefppedlodiaaGreatDoor
namespace Go.AM
open Go
theorem kI.tree{nA:List AV}(h:kI (.slice 5 (.struct (.cons Hy (.cons I7 (.cons (.int .u64) (.cons I7 (.cons (.slice 1 Hy) .nil))))))) nA):∃t:List cH,nA=[eA t]∧∀n∈t,n.key<2^64:=by
  obtain⟨els,rfl,_,fG⟩:=kI.rows h;have key:∀els:List (List AV),(∀el∈els,el.length=5∧kI (.struct (.cons Hy (.cons I7 (.cons (.int .u64) (.cons I7 (.cons (.slice 1 Hy) .nil)))))) el)->∃t:List cH,els=t.map cH.cells∧∀n∈t,n.key<2^64:=by
    intro els;induction els with
    |nil=>intro _;exact⟨[],rfl,fun n hn=>by cases hn⟩
    |cons e els ih=>
      intro h;obtain⟨t,rfl,h2⟩:=ih (fun el B3=>h el (by simp[B3]));obtain⟨_,h1⟩:=h e sM;obtain⟨N,rfl,hN⟩:=kI.node h1;refine⟨N::t,rfl,fun n hn=>?_⟩;rcases List.mem_cons.1 hn with rfl|hn
      · exact hN
      · exact h2 n hn
  obtain⟨t,rfl,h2⟩:=key els fG;refine⟨t,?_,h2⟩;unfold eA eb;rw[List.length_map]
def WJ(k:Nat)(l:List UInt8):List UInt8:=be k l.length++l
def rp.body(p:rp):List UInt8:=if p.kind=1 then WJ 1 p.name++(be 8 p.key++be 8 p.init) else if p.kind=2 then be 1 p.leaf.toNat++be 8 p.key else be 1 p.leaf.toNat
def rp.text(p:rp):List UInt8:=be 1 p.kind.toNat++p.body
def gg.xde(x:gg):List UInt8:=be 8 x.ot++WJ 2 x.text
def TQ{α:Type}(f:α->List UInt8)(l:List α):List UInt8:=(l.map f).flatten
def ft.text(x:ft):List UInt8:=be 8 x.key++(be 1 x.iJ.length++TQ gg.xde x.iJ)
def ia.text(x:ia):List UInt8:=be 8 x.key++(WJ 1 x.parent++(be 1 x.steps.length++TQ ft.text x.steps))
def gV.tail(c:gV):List UInt8:=if c.CE then be 1 1++c.path.text else be 1 0
def gV.content(c:gV):List UInt8:=
  be 1 1++(WJ 1 c.group++(be 8 c.nT.toNat++(be 1 c.Io.toNat++(be 1 c.props.length++(TQ rp.text c.props++c.tail)))))
def gV.text(c:gV):List UInt8:=c.content++(WJ 1 c.Ip++WJ 1 c.NF)
def gg.fits(p:gg):Prop:=p.text.length<=100
def ft.fits(p:ft):Prop:=(∀x∈p.iJ,x.fits)∧True∧p.iJ.length<=32
def ia.fits(p:ia):Prop:=(∀x∈p.steps,x.fits)∧True∧p.parent.length<=200∧p.steps.length<=20
end Go.AM
namespace Go.AM
namespace Kdf
variable(ei info:List UInt8)
def sZ:Nat->List UInt8
  |0=>[]
  |i+1=>Mac.tag ei (sZ i++info++[UInt8.ofNat (i+1)])
def row:Nat->List UInt8
  |0=>[]
  |i+1=>row i++sZ ei info (i+1)
theorem zO(i:Nat):(sZ ei info (i+1)).length=32:=Mac.pb _ _
theorem gU:∀i:Nat,(row ei info i).length=32*i
  |0=>rfl
  |i+1=>by rw[row,ai,gU i,zO];omega
def rounds(n:Nat):Nat:=(n+31)/32
def expand(n:Nat):List UInt8:=(row ei info (rounds n)).take n
theorem Ba(n:Nat):n<=32*rounds n:=by unfold rounds;omega
theorem ns(n:Nat):(expand ei info n).length=n:=by
  rw[expand,aV,gU];have:=Ba n;omega
theorem due(n i:Nat):32*i<n↔i<rounds n:=by unfold rounds;omega
def ok(n:Int):Bool:=decide (0<=n)&&decide (n<=8160)
def get(n:Int):List UInt8:=if ok n=true then expand ei info n.toNat else[]
end Kdf
namespace Kdf
def Jl:List UInt8:=[109,108,115,32]
def fits(l c:List UInt8)(n:Int):Bool:=decide (l.length<=251)&&decide (c.length<=65535)&&decide (0<=n)&&decide (n<=8160)
def text(l c:List UInt8)(n:Nat):List UInt8:=be 2 n++(be 1 (Jl++l).length++(Jl++l))++(be 2 c.length++c)
def label(ei l c:List UInt8)(n:Int):List UInt8:=if fits l c n=true then expand ei (text l c n.toNat) n.toNat else[]
def derive(ei l:List UInt8):List UInt8:=label ei (l.take 251) [] 32
def pen(l c:List UInt8)(n:Int):List UInt8×Bool:=iM 2 c (iM 1 (Jl++l) (eP 2 n ([],false)))
theorem WK{k n:Nat}{st:List UInt8×Bool}(h:st.2=true):(jX k n st).2=true:=by rw[jX,if_pos h];exact h
theorem QF{k:Nat}{n:Int}{st:List UInt8×Bool}(h:st.2=true):(eP k n st).2=true:=by
  unfold eP;split
  · exact WK h
  · rfl
theorem OR{m:List UInt8}{st:List UInt8×Bool}(h:st.2=true):(jY m st).2=true:=by rw[jY,if_pos h];exact h
theorem EE{k:Nat}{m:List UInt8}{st:List UInt8×Bool}(h:st.2=true):(iM k m st).2=true:=OR (QF h)
theorem EF{k:Nat}{n:Int}{st:List UInt8×Bool}(h:¬(0<=n∧n<2^(8*k))):(eP k n st).2=true:=by rw[eP,if_neg h]
theorem GX{k:Nat}{m:List UInt8}{st:List UInt8×Bool}(h:¬(m.length:Int)<2^(8*k)):(iM k m st).2=true:=OR (EF fun h'=>h h'.2)
theorem TR(l c:List UInt8)(n:Int)(h0:0<=n)(h1:n<=65535)(hl:l.length<=251)(hc:c.length<=65535):pen l c n=(text l c n.toNat,false):=by
  obtain⟨m,rfl⟩:∃m:Nat,n=(m:Int):=⟨n.toNat,oM⟩;have hm:(Jl++l).length=4+l.length:=(by simp[Jl];omega);unfold pen;rw[yC oM,Bq (by rw[hm];omega),Bq oM];simp[text]
theorem WM(l c:List UInt8)(n:Int)(h:¬(0<=n∧n<=65535∧l.length<=251∧c.length<=65535)):(pen l c n).2=true:=by
  have hm:(Jl++l).length=4+l.length:=(by simp[Jl];omega);unfold pen;by_cases h0:0<=n∧n<2^(8*2)
  · by_cases h1:((Jl++l).length:Int)<2^(8*1)
    · refine GX fun h2=>h ?_;simp only[Nat.reduceMul] at h0 h1 h2;refine⟨h0.1,oM,oM,oM⟩
    · exact EE (GX h1)
  · exact EE (EE (EF h0))
theorem pq(k:Nat)(m:List UInt8)(st:List UInt8×Bool):(iM k m st).1.length<=st.1.length+k+m.length:=by
  have:=kG k (m.length:Int) st;unfold iM jY;split
  · omega
  · simp only[ai];omega
end Kdf
namespace Sch
def xae:List UInt8:=[101,112,111,99,104]
def TU:List UInt8:=[119,101,108,99,111,109,101]
def QG:List UInt8:=[101,120,112,111,114,116,101,114]
def TV:List UInt8:=[99,111,110,102,105,114,109]
def WN:List UInt8:=[109,101,109,98,101,114,115,104,105,112]
def xdf:List UInt8:=[105,110,105,116]
def main(j:List UInt8):List UInt8:=Mac.tag j (List.replicate 32 0)
def nT(j c:List UInt8):List UInt8:=Kdf.label (main j) xae c 32
def of(j c:List UInt8):List (List UInt8):=[j,Kdf.derive (main j) TU,Kdf.derive (nT j c) QG,Kdf.derive (nT j c) TV,Kdf.derive (nT j c) WN,Kdf.derive (nT j c) xdf]
end Sch
end Go.AM
