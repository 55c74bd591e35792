/- Contracts of functions, each walked once; each theorem states its conditions. -/
import Derived.Test.YtbiefppedlodiaaGreatDoorAMp6
import Derived.Test.YtbiefppedlodiaaGreatDoorW1
import Derived.Test.YtbiefppedlodiaaGreatDoorW5
import Derived.Test.YtbiefppedlodiaaGreatDoorW4
import Derived.Test.YtbiefppedlodiaaGreatDoorW2
import Derived.Test.YtbiefppedlodiaaGreatDoorAMp7
import Derived.Test.YtbiefppedlodiaaGreatDoorW3
import Derived.Test.YtbiefppedlodiaaGreatDoorAMp5
import Derived.Test.YtbiefppedlodiaaGreatDoorAMp4
set_option linter.unusedSimpArgs false
set_option linter.unusedVariables false
open Nat renaming reduceLT → Na, reduceLeDiff → Nb, reduceEqDiff → Nc, reduceAdd → Nk, reduceMul → Nf, reducePow → Ng, reduceSub → Nh, reduceBEq → Nz
open Int renaming reduceLT → Za, reduceLE → Zb, reduceToNat → Zc
open And renaming intro → Ai
open Go.AM renaming ashift → Qa, aconv → Qb, aindexAddr → Qc, aindex → Qd, aslice → Qe, abuiltin → Qf, awp_reg_seq → wS, awp_reg_end → wE, awp_seq_k → wK, awp_cond_k → wC
open Go.AM.AV renaming cells → Qg, one → Qh
set_option maxRecDepth 100000
set_option maxHeartbeats 8000000
namespace Go.Proofs.YtbiefppedlodiaaGreatDoor
open Go Go.AM Go.Proofs Tryz
variable{Γ:Nat→List AV}
def l7(number:Int)(N:af):List UInt8:=1::(be 4 number.toNat++N.text)
def jl(N:af)(l r:List UInt8):List UInt8:=2::(N.text++(l++r))
def lh(N:af)(b:List UInt8):List UInt8:=3::(be 8 N.key++((be 1 N.parent.length++N.parent)++b))
def tU(number:Int)(N:af):List UInt8:=if N.right∧0≤number∧number<32 then Sha.sum (l7 number N) else[]
def lj(N:af)(l r:List UInt8):List UInt8:=if N.right then Sha.sum (jl N l r) else[]
def od(N:af)(b:List UInt8):List UInt8:=if N.right∧N.kind=2 then Sha.sum (lh N b) else[]
theorem Aq(number:Int)(N:af)(hr:N.right)(h0:0≤number)(h1:number<4294967296):dz N (bm 4 number ([1],false))=(l7 number N,false):=by
 unfold dz bm;rw[if_pos hr,if_pos ⟨h0,by omega⟩];simp[ed,ee,l7]
theorem CT(number:Int)(N:af)(h:¬(N.right∧0≤number∧number<4294967296)):(dz N (bm 4 number ([1],false))).2=true:=by
 unfold dz;by_cases hr:N.right
 ·rw[if_pos hr];have :¬(0≤number∧number<2^(8*4)):=fun e=>h ⟨hr,e.1,by have:=e.2;omega⟩;unfold bm;rw[if_neg this];rfl
 ·rw[if_neg hr]
theorem vW(N:af)(st:List UInt8×Bool):(dz N st).1.length≤st.1.length+100:=by
 unfold dz;split
 ·rename_i hr;have:=af.jt hr;have:=xO N.text st;omega
 ·simp only;omega
theorem y7(dO:Γ 0=ef Sha.H0)(hG:Γ 1=Sha.K.map wV)(number:Int)(hn: -9223372036854775808≤number∧number≤9223372036854775807)(N:af)(hl:N.ig.length≤2^61)(s:AS):
  aj prog Γ 201 [.v (.int .i64 number),.agg N.cells] s (fun r s'=>r=al (tU number N) .any∧s'=s):=by
 refine aa func201 rfl ntmps201 results201 (by simp) ?_;have iF:=fun s0 s p hp=>Ap (Γ:=Γ) number hn N hl s0 s p ([1],false) (by decide) hp;have hlen:(dz N (bm 4 number ([1],false))).1.length≤2^45:=by
  have h1:=vW N (bm 4 number ([1],false));have h2:=eE 4 number ([1],false);simp only[List.length_cons,List.length_nil] at h2;omega
 have Rl:=fun s=>lZ (Γ:=Γ) 1 (by decide) _ _ Oq _ iF hlen s;have eO:=Aq number N;have fQ:=CT number N;have hD:tU number N=if N.right∧0≤number∧number<32 then Sha.sum (l7 number N) else[]:=rfl
 have hBl:N.right→(l7 number N).length≤105:=(fun hr=>by have:=af.jt hr;simp[l7];omega);clear iF;generalize dz N (bm 4 number ([1],false))=F at *
 generalize tU number N=D at *
 generalize l7 number N=B at *
 unfold af.cells at *
 refine ic 2 3 (by decide) (by decide) (by decide) ?_;intro K hK;refine jN @aF.eq_1 ?_;intro o1 h1 o2 h2;refine hK _ _ o1 o2 _ _ rfl rfl h1 (by rw[AS.gK];exact h2) ?_;clear hK K h1 h2;refine jS @aF.eq_1 fun K hK=>?_;refine ad (Rl _) ?_;rintro r s1 ⟨rfl,rfl⟩;by_cases hg:N.right∧0≤number∧number<4294967296
 ·have hF:=eO hg.1 hg.2.1 hg.2.2;rw[hF];refine jR hK ?_;clear hK K;refine wK fun K hK=>?_;by_cases tc:number<32
  ·refine jB (decide_eq_false (show ¬(32:Int)≤number by omega)) ?_;refine jF ?_;refine ab ?_;refine hK _ _ ?_;clear hK K;have Rn:D=Sha.sum B:=(by rw[hD,if_pos ⟨hg.1,hg.2.1,tc⟩]);have EY:=hBl hg.1;have vS:=lq (Γ:=Γ) dO hG [B] .new (by simp) (by simp;omega) s1;rw[show[B].flatten=B from by simp,←Rn] at vS;refine wS fun K hK=>?_;simp only[↓DN,Qa,Qb,Qc,Qd,Qe,Qf,Qg,Qh,reduceCtorEq,↓reduceIte,Na,Nb,Nc,Nk,Nf,Ng,Nh,Za,Zb,Zc,TT,List.replicate_one];refine ad vS ?_;intro r s2 bu;have tn:D.length=32:=(by rw[Rn];exact Sha.de B);have hw:=bu.aB;have hle:=bu.1;obtain⟨t,e,rfl⟩:=cn bu (by rw[←List.length_pos_iff,tn];decide);refine jR hK ?_;clear hK K;refine jI ?_;exact⟨_,s1,hw,hle,rfl,rfl⟩
  ·refine jB (decide_eq_true (show(32:Int)≤number by omega)) ?_;refine jE ?_;refine jA ?_;refine jI ?_;refine⟨al [] .any,_,AV.aN,AS.le.refl _,?_,rfl⟩;rw[hD,if_neg (fun h=>tc h.2.2)];rfl
 ·have hF:=fQ hg;rw[hF];refine jR hK ?_;clear hK K;refine wK fun K hK=>?_;refine jA ?_;refine jE ?_;refine jA ?_;refine jI ?_;refine⟨al [] .any,_,AV.aN,AS.le.refl _,?_,rfl⟩;rw[hD,if_neg (fun h=>hg ⟨h.1,h.2.1,by omega⟩)];rfl
theorem GZ(a b c:List UInt8):gl [a,b,c]=[al a .any,al b .any,al c .any]:=rfl
theorem G7(a b:List UInt8):gl [a,b]=[al a .any,al b .any]:=rfl
theorem u7(dO:Γ 0=ef Sha.H0)(hG:Γ 1=Sha.K.map wV)(N:af)(hl:N.ig.length≤2^61)(x y:List UInt8)(T5:x.length+y.length≤2^30)(s:AS):
  aj prog Γ 202 [.agg N.cells,al x .any,al y .any] s (fun r s'=>r=al (lj N x y) .any∧s'=s):=by
 refine aa func202 rfl ntmps202 results202 (by simp) ?_;have iF:=fun s0 s p hp=>wI (Γ:=Γ) N hl s0 s p ([2],false) (by decide) hp;have hlen:(dz N ([2],false)).1.length≤2^45:=by
  have h1:=vW N ([2],false);simp only[List.length_cons,List.length_nil] at h1;omega
 have Rl:=fun s=>lZ (Γ:=Γ) 2 (by decide) _ _ Ot _ iF hlen s;have hD:lj N x y=if N.right then Sha.sum (jl N x y) else[]:=rfl
 have hB:jl N x y=(2::N.text)++(x++y):=rfl;have hT:=fun hr=>af.jt (N:=N) hr;have eO:N.right→dz N ([2],false)=(2::N.text,false):=(fun hr=>by unfold dz;rw[if_pos hr];rfl);have fQ:¬N.right→(dz N ([2],false)).2=true:=(fun hr=>by unfold dz;rw[if_neg hr]);clear iF;generalize dz N ([2],false)=F at *
 generalize lj N x y=D at *
 generalize jl N x y=B at *
 have Td:N.right→(2::N.text).length≤101:=(fun hr=>by have:=hT hr;simp;omega);generalize (2::N.text)=pre at *
 unfold af.cells at *
 refine aU 3 (by simp[cq]) ?_;intro K hK;refine jN @aF.eq_1 ?_;intro o ho;refine hK _ _ o _ rfl ho ?_;clear hK K ho;refine jS @aF.eq_1 fun K hK=>?_;refine ad (Rl _) ?_;rintro r s1 ⟨rfl,rfl⟩;by_cases hg:N.right
 ·rw[eO hg];refine jR hK ?_;clear hK K;refine wK fun K hK=>?_;refine jA ?_;refine jF ?_;refine ab ?_;refine hK _ _ ?_;clear hK K;have Rn:D=Sha.sum B:=(by rw[hD,if_pos hg]);have AF:=Td hg;have vS:=lq (Γ:=Γ) dO hG [pre,x,y] .new (by simp) (by simp;omega) s1;rw[show[pre,x,y].flatten=B from by rw[hB];simp,←Rn,GZ] at vS;refine wS fun K hK=>?_;simp only[↓DN,Qa,Qb,Qc,Qd,Qe,Qf,Qg,Qh,reduceCtorEq,↓reduceIte,Na,Nb,Nc,Nk,Nf,Ng,Nh,Za,Zb,Zc,TT,List.replicate_succ,List.replicate_zero];refine ad vS ?_;intro r s2 bu;have tn:D.length=32:=(by rw[Rn];exact Sha.de B);have hw:=bu.aB;have hle:=bu.1;obtain⟨t,e,rfl⟩:=cn bu (by rw[←List.length_pos_iff,tn];decide);refine jR hK ?_;clear hK K;refine jI ?_;exact⟨_,s1,hw,hle,rfl,rfl⟩
 ·rw[fQ hg];refine jR hK ?_;clear hK K;refine wK fun K hK=>?_;refine jA ?_;refine jE ?_;refine jA ?_;refine jI ?_;refine⟨al [] .any,_,AV.aN,AS.le.refl _,?_,rfl⟩;rw[hD,if_neg hg];rfl
theorem u9(dO:Γ 0=ef Sha.H0)(hG:Γ 1=Sha.K.map wV)(N:af)(hl:N.ig.length≤2^61)(x:List UInt8)(hx:x.length≤2^30)(s:AS):
  aj prog Γ 113 [.agg N.cells,al x .any] s (fun r s'=>r=al (od N x) .any∧s'=s):=by
 refine aa func113 rfl ntmps113 results113 (by simp) ?_;have hD:od N x=if N.right∧N.kind=2 then Sha.sum (lh N x) else[]:=rfl
 have hB:lh N x=(3::(be 8 N.key++(be 1 N.parent.length++N.parent)))++x:=(by simp[lh]);have Te:=fun s=>kE (Γ:=Γ) N hl s;have Mq:N.right→N.kind=2→N.key<2^64∧N.parent.length≤32:=by
  intro hr hk;have :N.held:=by
   unfold af.right at hr;rw[hk] at hr;simp at hr;exact hr.2.1
  obtain⟨_,h2,h3⟩:=this;exact⟨by omega,by omega⟩
 have iF:=fun hk hp s0 s p hq=>wJ (Γ:=Γ) N hk hp s0 s p ([3],false) (by decide) hq;have hF:N.right→N.kind=2→dx 1 N.parent (ed 8 N.key ([3],false))=(3::(be 8 N.key++(be 1 N.parent.length++N.parent)),false):=by
  intro hr hk;have:=(Mq hr hk).2;unfold dx bm;rw[if_pos ⟨by omega,by omega⟩];simp[ed,ee]
 generalize dx 1 N.parent (ed 8 N.key ([3],false))=F at *
 have Td:N.right→N.kind=2→(3::(be 8 N.key++(be 1 N.parent.length++N.parent))).length≤100:=(fun hr hk=>by have:=(Mq hr hk).2;simp;omega);generalize (3::(be 8 N.key++(be 1 N.parent.length++N.parent)))=pre at *
 generalize od N x=D at *
 generalize lh N x=B at *
 unfold af.cells at *
 obtain⟨k,m,y,pa,u⟩:=N;simp only at *
 refine aU 2 (by simp[cq]) ?_;intro K hK;refine jN @aF.eq_1 ?_;intro o ho;refine hK _ _ o _ rfl ho ?_;clear hK K ho;refine wK fun K hK=>?_;by_cases hk:k=2
 ·refine jS (Ai @aF.eq_1 (gz hk)) fun K hK=>?_;refine ad (Te _) ?_;rintro r s1 ⟨rfl,rfl⟩;by_cases hg:af.right ⟨k,m,y,pa,u⟩
  ·rw[decide_eq_true hg];refine jR hK ?_;clear hK K;refine jF ?_;refine ab ?_;refine hK _ _ ?_;clear hK K;obtain⟨q1,q2⟩:=Mq hg hk;have hFF:=hF hg hk;have AF:=Td hg hk;have Rl:=fun s=>lZ (Γ:=Γ) 3 (by decide) _ _ Ou _ (iF q1 (by omega)) (by rw[hFF];simp only;omega) s;rw[hFF] at Rl;refine jS @aF.eq_1 fun K hK=>?_;refine ad (Rl _) ?_;rintro r s2 ⟨rfl,rfl⟩;refine jR hK ?_;clear hK K;have Rn:D=Sha.sum B:=(by rw[hD,if_pos ⟨hg,hk⟩]);have vS:=lq (Γ:=Γ) dO hG [pre,x] .new (by simp) (by simp;omega) s2;rw[show[pre,x].flatten=B from by rw[hB];simp,←Rn,G7] at vS;refine wS fun K hK=>?_;simp only[↓DN,Qa,Qb,Qc,Qd,Qe,Qf,Qg,Qh,reduceCtorEq,↓reduceIte,Na,Nb,Nc,Nk,Nf,Ng,Nh,Za,Zb,Zc,TT,List.replicate_succ,List.replicate_zero];refine ad vS ?_;intro r s3 bu;have tn:D.length=32:=(by rw[Rn];exact Sha.de B);have hw:=bu.aB;have hle:=bu.1;obtain⟨t,e,rfl⟩:=cn bu (by rw[←List.length_pos_iff,tn];decide);refine jR hK ?_;clear hK K;refine jI ?_;exact⟨_,s2,hw,hle,rfl,rfl⟩
  ·rw[decide_eq_false hg];refine jR hK ?_;clear hK K;refine jE ?_;refine jA ?_;refine jI ?_;refine⟨al [] .any,_,AV.aN,AS.le.refl _,?_,rfl⟩;rw[hD,if_neg (fun h=>hg h.1)];rfl
 ·refine jB (Ai @aF.eq_1 (fT hk)) ?_;refine jE ?_;refine jA ?_;refine jI ?_;refine⟨al [] .any,_,AV.aN,AS.le.refl _,?_,rfl⟩;rw[hD,if_neg (fun h=>hk h.2)];rfl
theorem tV(n:Nat)(hn:n<32)(N:af)(hr:N.right)(s:AS):
  aj prog Γ 171 [.v (.int .i64 (n:Int)),.agg N.cells] s (fun r s'=>r=.v (.string ⟨(Sha.sum (l7 (n:Int) N)).toArray⟩)∧s'=s):=by
 refine aa func171 rfl ntmps171 results171 (by simp) ?_;have hw:=fun s=>lU (Γ:=Γ) N hr s;have hT:=af.jt hr;have hB:l7 (n:Int) N=1::(be 4 n++N.text):=rfl;have EY:(l7 (n:Int) N).length≤110:=(by rw[hB];simp;omega);have vS:=fun s=>fV (Γ:=Γ) (l7 (n:Int) N) (by omega) s;rw[hB] at vS EY;rw[show l7 (n:Int) N=1::(be 4 n++N.text) from rfl];generalize N.text=tx at *
 unfold af.cells at *
 refine aU 3 (by simp[cq]) ?_;intro K hK;refine jN @aF.eq_1 ?_;intro o ho;refine hK _ _ o _ rfl ho ?_;clear hK K ho;refine ba T.mixed [2,5,7] (by kernel_rfl) ?_;intro K hK;refine jN (Ai @aF.eq_1 (eV n (show n<2^64 by omega))) ?_;refine ad (cT n 4 (by omega) (by omega) _) ?_;rintro r s1 ⟨rfl,rfl⟩;refine jN (Ai @aF.eq_1 @cC) ?_;refine ad (hw _) ?_;rintro r s2 ⟨rfl,rfl⟩;refine jN (Ai @aF.eq_1 (Ai @cC (Ai (bF (show 4+1+tx.length<2^62 by omega)) (bF (show 5+tx.length<2^62 by omega))))) ?_;refine ad (vS _) ?_;rintro r s3 ⟨rfl,rfl⟩;refine jR hK ?_;clear hK K;exact jJ
theorem qA(N:af)(hr:N.right)(x y:List UInt8)(T5:x.length+y.length≤2^30)(s:AS):
  aj prog Γ 172 [.agg N.cells,.v (.string ⟨x.toArray⟩),.v (.string ⟨y.toArray⟩)] s (fun r s'=>r=.v (.string ⟨(Sha.sum (jl N x y)).toArray⟩)∧s'=s):=by
 refine aa func172 rfl ntmps172 results172 (by simp) ?_;have hw:=fun s=>lU (Γ:=Γ) N hr s;have hT:=af.jt hr;have hB:jl N x y=2::(N.text++(x++y)):=rfl;have vS:=fun s=>fV (Γ:=Γ) (jl N x y) (by rw[hB];simp;omega) s;rw[hB] at vS⊢;generalize N.text=tx at *
 unfold af.cells at *
 refine aU 3 (by simp[cq]) ?_;intro K hK;refine jN @aF.eq_1 ?_;intro o ho;refine hK _ _ o _ rfl ho ?_;clear hK K ho;refine jS @aF.eq_1 fun K hK=>?_;refine ad (hw _) ?_;rintro r s2 ⟨rfl,rfl⟩;refine jN (Ai @aF.eq_1 (Ai (bF (show 1+tx.length<2^62 by omega)) (Ai (bF (show tx.length+1+x.length<2^62 by omega)) (Ai (bF (show tx.length+(x.length+1)+y.length<2^62 by omega)) (bF (show tx.length+x.length+1+y.length<2^62 by omega)))))) ?_;refine ad (vS _) ?_;rintro r s3 ⟨rfl,rfl⟩;refine jR hK ?_;clear hK K;exact jJ
theorem qB(N:af)(hk:N.key<2^64)(hp:N.parent.length≤32)(x:List UInt8)(hx:x.length≤2^30)(s:AS):
  aj prog Γ 121 [.agg N.cells,.v (.string ⟨x.toArray⟩)] s (fun r s'=>r=.v (.string ⟨(Sha.sum (lh N x)).toArray⟩)∧s'=s):=by
 refine aa func121 rfl ntmps121 results121 (by simp) ?_;have hB:lh N x=3::(be 8 N.key++((be 1 N.parent.length++N.parent)++x)):=rfl;have vS:=fun s=>fV (Γ:=Γ) (lh N x) (by rw[hB];simp;omega) s;rw[hB] at vS⊢;obtain⟨k,m,y,pa,u⟩:=N;simp only at *
 unfold af.cells at *
 refine aU 2 (by simp[cq]) ?_;intro K hK;refine jN @aF.eq_1 ?_;intro o ho;refine hK _ _ o _ rfl ho ?_;clear hK K ho;refine ba T.mixed [2,7,11] (by kernel_rfl) ?_;intro K hK;refine jN @aF.eq_1 ?_;refine ad (cT y 8 hk (by omega) _) ?_;rintro r s1 ⟨rfl,rfl⟩;refine jN (Ai @aF.eq_1 @cC) ?_;refine ad (eZ pa 1 (by omega) (by omega) _) ?_;rintro r s2 ⟨rfl,rfl⟩;refine jN (Ai @aF.eq_1 (Ai @cC (Ai (bF (show 9+(1+pa.length)<2^62 by omega)) (bF (show 8+(1+pa.length)+1+x.length<2^62 by omega))))) ?_;refine ad (vS _) ?_;rintro r s3 ⟨rfl,rfl⟩;refine jR hK ?_;clear hK K;exact jJ
def dQ(t:List af):Nat→Nat→List UInt8
 |0,n=>tU ((n/2:Nat):Int) (nd t n)
 |l+1,n=>lj (nd t n) (dQ t l (n-2^l)) (dQ t l (n+2^l))
theorem lr(t:List af):∀l n,(dQ t l n).length≤32
 |0,n=>by
  unfold dQ tU;split
  ·rw[Sha.de];exact Nat.le_refl _
  ·simp
 |l+1,n=>by
  unfold dQ lj;split
  ·rw[Sha.de];exact Nat.le_refl _
  ·simp
theorem CU(dO:Γ 0=ef Sha.H0)(gg:Γ 1=Sha.K.map wV)(hG:Γ 3=fu.map pn)(t:List af)(ht:dE t):∀(l n:Nat),lv n=l→n<63→n+2^l≤t.length→∀s,
  aj prog Γ 165 [aW t,.v (.int .i64 n)] s (fun r s'=>r=al (dQ t l n) .any∧s'=s):=by
 intro l;induction l with
 |zero=>
  intro n hl hn hs s;refine aa func165 rfl ntmps165 results165 (by simp) ?_;have oo:=fun s=>ik (Γ:=Γ) hG (n:Int) (by omega) s;rw[qu hn hl] at oo;have hi:n<t.length:=(by have :(2:Nat)^0=1:=rfl;omega);have cx:=cK hi;have hH:=fun s=>y7 (Γ:=Γ) dO gg ((n/2:Nat):Int) (by omega) (nd t n) (ht.nd n).1 s;have dJ:dQ t 0 n=tU ((n/2:Nat):Int) (nd t n):=rfl;rw[dJ];generalize tU ((n/2:Nat):Int) (nd t n)=D at *
  generalize nd t n=N at *
  unfold aW;generalize aK af.cells t=X at *
  obtain⟨nk,nm,ny,jj,nu⟩:=N;unfold af.cells at cx hH;unfold aF at cx hH;have cl:(0:Int)≤(n:Int):=(by omega);refine jA ?_;refine jK (oo _) ?_;rintro s1 rfl;refine wK fun K hK=>?_;refine jA ?_;refine jE ?_;refine wS fun K hK=>?_;simp only[↓DN,Qa,Qb,Qc,Qd,Qe,Qf,Qg,Qh,reduceCtorEq,↓reduceIte,Na,Nb,Nc,Nk,Nf,Ng,Nh,Za,Zb,Zc,TT,kS,dv n (by omega),aq,hi,cl,cx];refine ad (hH _) ?_;rintro r s2 ⟨rfl,rfl⟩;refine jR hK ?_;clear hK K;exact jJ
 |succ l ih=>
  intro n hl hn hs s;refine aa func165 rfl ntmps165 results165 (by simp) ?_;obtain⟨hk,Qk,BM,w9,Fu,Nt⟩:=mH hn hl;have oo:=fun s=>ik (Γ:=Γ) hG (n:Int) (by omega) s;have Zd:=fun s=>mR (Γ:=Γ) hG (n:Int) (by omega) s;rw[hk] at oo Zd;have ux:0<2^l:=Nat.two_pow_pos l;have Lm:2^(l+1)=2^l+2^l:=(by rw[Nat.pow_succ];omega);have hi:n<t.length:=(by omega);have cx:=cK hi;have h1:=fun s=>ih (n-2^l) Qk (by omega) (by omega) s;have h2:=fun s=>ih (n+2^l) BM w9 (by omega) s;have hB:=fun s=>u7 (Γ:=Γ) dO gg (nd t n) (ht.nd n).1 (dQ t l (n-2^l)) (dQ t l (n+2^l)) (by have:=lr t l (n-2^l);have:=lr t l (n+2^l);omega) s;have dJ:dQ t (l+1) n=lj (nd t n) (dQ t l (n-2^l)) (dQ t l (n+2^l)):=rfl;rw[dJ];clear ih dJ;generalize lj (nd t n) (dQ t l (n-2^l)) (dQ t l (n+2^l))=D at *
  generalize dQ t l (n-2^l)=H1 at *
  generalize dQ t l (n+2^l)=H2 at *
  generalize nd t n=N at *
  unfold aW at *
  generalize aK af.cells t=X at *
  obtain⟨nk,nm,ny,jj,nu⟩:=N;unfold af.cells at cx hB;unfold aF at cx hB;have cl:(0:Int)≤(n:Int):=(by omega);refine jA ?_;refine jK (oo _) ?_;rintro s1 rfl;refine wK fun K hK=>?_;refine jA ?_;refine jF ?_;refine ab ?_;refine hK _ _ ?_;clear hK K;refine jK (Zd _) ?_;rintro s2 rfl;refine ba T.mixed [6,9,10] (by kernel_rfl) ?_;intro K hK;simp only[↓DM,bN,DX,Nz,↓DN,Qa,Qb,Qc,Qd,Qe,Qf,Qg,Qh,reduceCtorEq,↓reduceIte,Na,Nb,Nc,Nk,Nf,Ng,Nh,Za,Zb,Zc,TT,aq,hi,cl,cx];refine ad (h1 _) ?_;rintro r s3 ⟨rfl,rfl⟩;refine jM ?_;refine ad (h2 _) ?_;rintro r s4 ⟨rfl,rfl⟩;refine jM ?_;refine ad (hB _) ?_;rintro r s5 ⟨rfl,rfl⟩;refine jR hK ?_;clear hK K;exact jJ
theorem EZ{t:List af}(hr:bd t){n:Nat}(hn:n<63):tU ((n/2:Nat):Int) (nd t n)=Sha.sum (l7 ((n/2:Nat):Int) (nd t n)):=by
 unfold tU;exact if_pos ⟨hr.nd n,by omega,by omega⟩
theorem Ar{t:List af}(hr:bd t)(n:Nat)(a b:List UInt8):lj (nd t n) a b=Sha.sum (jl (nd t n) a b):=by
 unfold lj;exact if_pos (hr.nd n)
theorem wL(t:List af)(ht:dE t)(hr:bd t):∀(l n:Nat),lv n=l→n<63→n+2^l≤t.length→∀s,
  aj prog Γ 122 [aW t,.v (.int .i64 n)] s (fun r s'=>r=.v (.string ⟨(dQ t l n).toArray⟩)∧s'=s):=by
 intro l;induction l with
 |zero=>
  intro n hl hn hs s;refine aa func122 rfl ntmps122 results122 (by simp) ?_;have oo:=fun s=>cR (Γ:=Γ) (n:Int) (by omega) s;rw[qu hn hl] at oo;have hi:n<t.length:=(by have :(2:Nat)^0=1:=rfl;omega);have cx:=cK hi;have hH:=fun s=>tV (Γ:=Γ) (n/2) (by omega) (nd t n) (hr.nd n) s;have dJ:dQ t 0 n=Sha.sum (l7 ((n/2:Nat):Int) (nd t n)):=EZ hr hn;rw[dJ];generalize Sha.sum (l7 ((n/2:Nat):Int) (nd t n))=D at *
  generalize nd t n=N at *
  unfold aW;generalize aK af.cells t=X at *
  obtain⟨nk,nm,ny,jj,nu⟩:=N;unfold af.cells at cx hH;unfold aF at cx hH;have cl:(0:Int)≤(n:Int):=(by omega);refine jA ?_;refine jK (oo _) ?_;rintro s1 rfl;refine wK fun K hK=>?_;refine jA ?_;refine jE ?_;refine wS fun K hK=>?_;simp only[↓DN,Qa,Qb,Qc,Qd,Qe,Qf,Qg,Qh,reduceCtorEq,↓reduceIte,Na,Nb,Nc,Nk,Nf,Ng,Nh,Za,Zb,Zc,TT,kS,dv n (by omega),aq,hi,cl,cx];refine ad (hH _) ?_;rintro r s2 ⟨rfl,rfl⟩;refine jR hK ?_;clear hK K;exact jJ
 |succ l ih=>
  intro n hl hn hs s;refine aa func122 rfl ntmps122 results122 (by simp) ?_;obtain⟨hk,Qk,BM,w9,Fu,Nt⟩:=mH hn hl;have oo:=fun s=>cR (Γ:=Γ) (n:Int) (by omega) s;rw[hk] at oo;have ux:0<2^l:=Nat.two_pow_pos l;have Lm:2^(l+1)=2^l+2^l:=(by rw[Nat.pow_succ];omega);have hi:n<t.length:=(by omega);have cx:=cK hi;have h1:=fun s=>ih (n-2^l) Qk (by omega) (by omega) s;have h2:=fun s=>ih (n+2^l) BM w9 (by omega) s;have hB:=fun s=>qA (Γ:=Γ) (nd t n) (hr.nd n) (dQ t l (n-2^l)) (dQ t l (n+2^l)) (by have:=lr t l (n-2^l);have:=lr t l (n+2^l);omega) s;have dJ:dQ t (l+1) n=Sha.sum (jl (nd t n) (dQ t l (n-2^l)) (dQ t l (n+2^l))):=Ar hr n _ _;rw[dJ];clear ih dJ;generalize Sha.sum (jl (nd t n) (dQ t l (n-2^l)) (dQ t l (n+2^l)))=D at *
  generalize dQ t l (n-2^l)=H1 at *
  generalize dQ t l (n+2^l)=H2 at *
  generalize nd t n=N at *
  unfold aW at *
  generalize aK af.cells t=X at *
  obtain⟨nk,nm,ny,jj,nu⟩:=N;unfold af.cells at cx hB;unfold aF at cx hB;have cl:(0:Int)≤(n:Int):=(by omega);refine jA ?_;refine jK (oo _) ?_;rintro s1 rfl;refine wK fun K hK=>?_;refine jA ?_;refine jF ?_;refine ab ?_;refine hK _ _ ?_;clear hK K;refine ba T.mixed [6,9,10] (by kernel_rfl) ?_;intro K hK;simp only[↓DM,bN,DX,Nz,↓DN,Qa,Qb,Qc,Qd,Qe,Qf,Qg,Qh,reduceCtorEq,↓reduceIte,Na,Nb,Nc,Nk,Nf,Ng,Nh,Za,Zb,Zc,TT,aq,hi,cl,cx];refine ad (h1 _) ?_;rintro r s3 ⟨rfl,rfl⟩;refine jM ?_;refine ad (h2 _) ?_;rintro r s4 ⟨rfl,rfl⟩;refine jM ?_;refine ad (hB _) ?_;rintro r s5 ⟨rfl,rfl⟩;refine jR hK ?_;clear hK K;exact jJ
def nA(t:List af)(x:Int):List UInt8:=if 0≤x∧x<(t.length:Int)∧bd t then dQ t (lv x.toNat) x.toNat else[]
theorem As(dO:Γ 0=ef Sha.H0)(gg:Γ 1=Sha.K.map wV)(hG:Γ 3=fu.map pn)(t:List af)(ht:dE t)(x:Int)(s:AS):
  aj prog Γ 114 [aW t,.v (.int .i64 x)] s (fun r s'=>r=al (nA t x) .any∧s'=s):=by
 refine aa func114 rfl ntmps114 results114 (by simp) ?_;have hr:=fun s=>jk (Γ:=Γ) hG t ht s;have hh:=fun n hn hs s=>CU (Γ:=Γ) dO gg hG t ht (lv n) n rfl hn hs s;have me:=ht.1;have qC:¬(0≤x∧x<(t.length:Int)∧bd t)→nA t x=[]:=fun h=>if_neg h;have CN:0≤x∧x<(t.length:Int)∧bd t→nA t x=dQ t (lv x.toNat) x.toNat:=fun h=>if_pos h;unfold aW at *
 generalize aK af.cells t=X at *
 refine jA ?_;refine wK fun K hK=>?_;by_cases h0:x<0
 ·refine jB (decide_eq_true h0) ?_;refine jE ?_;refine jA ?_;refine jI ?_;refine⟨_,_,AV.aN (sz:=1),AS.le.refl _,?_,rfl⟩;rw[qC (fun k=>by omega)];rfl
 ·by_cases h1:(t.length:Int)≤x
  ·refine jB (Ai (decide_eq_false h0) (decide_eq_true h1)) ?_;refine jE ?_;refine jA ?_;refine jI ?_;refine⟨_,_,AV.aN (sz:=1),AS.le.refl _,?_,rfl⟩;rw[qC (fun k=>by omega)];rfl
  ·refine jS (Ai (decide_eq_false h0) (decide_eq_false h1)) fun K hK=>?_;refine ad (hr _) ?_;rintro r s1 ⟨rfl,rfl⟩;by_cases iD:bd t
   ·rw[decide_eq_true iD];refine jR hK ?_;clear hK K;refine jF ?_;refine ab ?_;refine hK _ _ ?_;clear hK K;obtain⟨n,rfl⟩:=Int.eq_ofNat_of_zero_le (show 0≤x by omega);have hn:n<t.length:=(by omega);obtain⟨gC,ng⟩:=iD.span hn;refine jK (hh n ng gC _) ?_;rintro s2 rfl;refine jI ?_;refine jW ⟨?_,rfl⟩;rw[CN ⟨by omega,by omega,iD⟩,Int.toNat_natCast]
   ·rw[decide_eq_false iD];refine jR hK ?_;clear hK K;refine jE ?_;refine jA ?_;refine jI ?_;refine⟨_,_,AV.aN (sz:=1),AS.le.refl _,?_,rfl⟩;rw[qC (fun k=>iD k.2.2)];rfl
theorem Fa(l:List Int)(v:Int)(hl:l.length≤2^61)(s:AS):aj prog Γ 129 [aF l .any,.v (.int .i64 v)] s (fun r s'=>r=.v (.int .i64 (cc (fun i=>v==l.getD i 0) l.length 0))∧s'=s):=by
 refine aa func129 rfl ntmps129 results129 (by simp) ?_;obtain⟨Q,hQ⟩:∃Q:Nat→Bool,Q=fun i=>v==l.getD i 0:=⟨_,rfl⟩;rw[←hQ];unfold aF;refine jA ?_;refine wK fun K hK=>?_;refine jA ?_;refine ah ?_;refine aD (fun E s2=>∃i:Nat,i≤l.length∧cc Q (l.length-i) i=cc Q l.length 0∧E 8=.v (.int .i64 i)∧E 7=.v (.int .i64 l.length)∧E 0=.sl 1 l.length (l.map aI) .any∧E 1=.v (.int .i64 v)∧s2=s)
  (fun E _=>match E 8 with |.v (.int _ i)=>l.length-i.toNat|_=>0) ?_ ?_
 ·exact⟨0,Nat.zero_le _,rfl,rfl,rfl,rfl,rfl,rfl⟩
 ·rintro E1 s2 ⟨i,hi,hf,g8,g7,g0,g1,rfl⟩ -
  by_cases aY:i<l.length
  ·refine jB (Ai @g8 (Ai @g7 (Ai @aq (decide_eq_true aY)))) ?_;refine wK fun K2 aX=>?_;refine jE ?_;refine ab ?_;refine aX _ _ ?_;clear aX K2;refine wK fun K3 br=>?_;refine ah ?_;have zw:Q i=(v==l[i]):=(by rw[hQ];simp[List.getD,aY]);obtain⟨k',Fy⟩:∃k',l.length-i=k'+1:=⟨l.length-i-1,by omega⟩;have Da:l.length-(i+1)=k':=(by omega);rw[Fy] at hf;have cx:=ea aY;have cl:(0:Int)≤(i:Int):=(by omega);generalize l[i]=u at *
   refine jB @g8 ?_;by_cases hq:v=u
   ·have PA:Q i=true:=(by rw[zw];exact lN hq);refine jB (Ai @g1 (Ai @g0 (Ai @aq (Ai @aY (Ai @cl (Ai @cx (lN hq))))))) ?_;refine jE ?_;refine jA ?_;refine jI ?_;rw[←hf,jX PA];exact jW ⟨rfl,rfl⟩
   ·have PA:Q i=false:=(by rw[zw];exact jv hq);refine jB (Ai @g1 (Ai @g0 (Ai @aq (Ai @aY (Ai @cl (Ai @cx (jv hq))))))) ?_;refine jF ?_;refine ab ?_;simp only[ar,az,if_true,if_false];refine br _ _ ?_;clear br K3;refine jD (Ai @g8 (bp i (by omega))) ?_;refine⟨⟨i+1,by omega,by rw[Da,←hf,jY PA],rfl,g7,g0,g1,rfl⟩,?_⟩;simp only[g8,aH,↓reduceIte];omega
  ·refine jB (Ai @g8 (Ai @g7 (Ai @aq (decide_eq_false aY)))) ?_;refine wK fun K2 aX=>?_;refine jF ?_;refine aC ?_;simp only[az,ar,if_true];refine hK _ _ ?_;clear hK aX K2 K;rw[show l.length-i=0 by omega] at hf;refine jA ?_;refine jI ?_;rw[←hf];exact jW ⟨rfl,rfl⟩
theorem iv(l:List Int)(v:Int)(hl:l.length≤2^61)(s:AS):aj prog Γ 77 [aF l .any,.v (.int .i64 v)] s (fun r s'=>r=.v (.bool (decide (v∈l)))∧s'=s):=by
 refine aa func77 rfl ntmps77 results77 (by simp) ?_;have hc:=fun s=>Fa (Γ:=Γ) l v hl s;have ha:=yF (fun x=>v==x) l;have hm:l.any (fun x=>v==x)=decide (v∈l):=by
  rw[Bool.eq_iff_iff,List.any_eq_true,decide_eq_true_iff];constructor
  ·rintro⟨x,hx,he⟩;rw[beq_iff_eq.1 he];exact hx
  ·intro h;exact⟨v,h,by simp⟩
 rw[hm] at ha;generalize cc (fun i=>v==l.getD i 0) l.length 0=n at *
 refine jA ?_;refine jK (hc _) ?_;rintro s1 rfl;refine jI ?_;rw[←ha];exact jW ⟨rfl,rfl⟩
def Pb(s0:AS)(k:Nat)(cs:List AV)(L:List Int)(r:AV)(s':AS):Prop:=cP 1 s0 s' r (k+L.length) (cs++L.map aI)∧s0.le s'
theorem mL(hG:Γ 3=fu.map pn)(t:List af)(iD:bd t)(skip:List Int)(Jz:skip.length≤2^61)(n:Nat)(IE:n<63)(hi:n<t.length)(tW:fX (n:Int)=none∨(nd t n).kind≠0)
  (s0 s:AS) (x:AV) (k:Nat) (cs:List AV) (hx:cP 1 s0 s x k cs) (hle:s0.le s) (hk:k+33≤100000):
  aj prog Γ 124 [aW t,.v (.int .i64 n),aF skip .any,x] s (Pb s0 k cs (kI skip (nd t n) n++iu skip (nd t n).ig)):=by
 refine aa func124 rfl ntmps124 results124 (by simp) ?_;have oo:=fun s=>ik (Γ:=Γ) hG (n:Int) (by omega) s;have Df:=fun v s=>iv (Γ:=Γ) skip v Jz s;have cx:=cK hi;have Ze:=nv (iD.nd n);have tn:=qv skip (nd t n) n;have l8:kI skip (nd t n) n=if((nd t n).kind=1∧((n/2:Nat):Int)∉skip)∨(nd t n).kind=2 then[(n:Int)] else[]:=rfl
 generalize kI skip (nd t n) n=SL at *
 generalize nd t n=N at *
 unfold aW;generalize aK af.cells t=X at *
 obtain⟨nk,nm,ny,jj,nu⟩:=N;unfold af.cells at cx;unfold aF at cx Df⊢;simp only at Ze l8 tW;have cl:(0:Int)≤(n:Int):=(by omega);refine jA ?_;refine aU 9 (by decide) ?_;intro K hK;simp only[↓DM,bN,DX,Nz,↓DN,Qa,Qb,Qc,Qd,Qe,Qf,Qg,Qh,reduceCtorEq,↓reduceIte,Na,Nb,Nc,Nk,Nf,Ng,Nh,Za,Zb,Zc,TT,aq,hi,cl,cx];intro o1 h1;refine hK _ _ o1 _ rfl h1 ?_;clear hK K h1;refine wK fun K0 LZ=>?_;have h0:∀(E:Env)(lf:Int)(ok:Bool),(ok=true→nk≠0)→E 0=.sl 5 t.length X .any→E 1=.v (.int .i64 n)→E 2=.sl 1 skip.length (skip.map aI) .any→E 3=x→E 9=.dr [.v (.int .i64 nk),.sl 1 nm.length (nm.map ai) .any,.v (.int .u64 ny),.sl 1 jj.length (jj.map ai) .any,.sl 1 nu.length (nu.map aI) .any]→E 10=.v (.int .i64 lf)→E 11=.v (.bool ok)→K0 E s:=by
  intro E lf ok iN g0 g1 g2 g3 g9 g10 g11;refine LZ _ _ ?_;clear LZ K0;refine wK fun K1 kh=>?_;have h1:∀(E:Env)(s1:AS)(x1:AV),E 1=.v (.int .i64 n)→E 2=.sl 1 skip.length (skip.map aI) .any→E 9=.dr [.v (.int .i64 nk),.sl 1 nm.length (nm.map ai) .any,.v (.int .u64 ny),.sl 1 jj.length (jj.map ai) .any,.sl 1 nu.length (nu.map aI) .any]→E 3=x1→cP 1 s0 s1 x1 (k+SL.length) (cs++SL.map aI)→s0.le s1→K1 E s1:=by
   clear g0 g1 g2 g3 g9 g10 g11 hx hle;intro E s1 x1 g1 g2 g9 g3 hx hle;refine kh _ _ ?_;clear kh K1;refine wK fun K2 aX=>?_;refine jB @g9 ?_;refine ah ?_;refine aD (fun E s2=>∃(i:Nat)(x2:AV),i≤nu.length∧E 67=.v (.int .i64 i)∧E 66=.v (.int .i64 nu.length)∧E 65=.sl 1 nu.length (nu.map aI) .any∧E 2=.sl 1 skip.length (skip.map aI) .any∧E 3=x2∧cP 1 s0 s2 x2 (k+SL.length+(iu skip (nu.take i)).length) (cs++SL.map aI++(iu skip (nu.take i)).map aI)∧s0.le s2)
    (fun E _=>match E 67 with |.v (.int _ i)=>nu.length-i.toNat|_=>0) ?_ ?_
   ·refine⟨0,x1,Nat.zero_le _,rfl,rfl,rfl,g2,g3,?_,hle⟩;have :iu skip (nu.take 0)=[]:=(by simp[iu]);rw[this];simpa using hx
   ·clear g1 g2 g9 g3 hx hle;rintro E2 s2 ⟨i,x2,aY,Nw,Zf,g65,g2,g3,hx,hle⟩ -
    by_cases y8:i<nu.length
    ·refine jB (Ai @Nw (Ai @Zf (Ai @aq (decide_eq_true y8)))) ?_;refine wK fun K3 br=>?_;refine jE ?_;refine ab ?_;refine br _ _ ?_;clear br K3;refine wK fun K4 eb=>?_;refine ah ?_;have Mr:(0:Int)≤(i:Int):=(by omega);have GO:=ea y8;have hub:=Ze.2 nu[i] (List.getElem_mem y8);have J7:=Bo (skip:=skip) y8;have hlen:=tG skip (nu.take i);have bJ:(nu.take i).length=i:=(by rw[List.length_take];omega);generalize nu[i]=u at *
     have bG:∀(E:Env)(s3:AS)(x3:AV),E 67=.v (.int .i64 i)→E 66=.v (.int .i64 nu.length)→E 65=.sl 1 nu.length (nu.map aI) .any→E 2=.sl 1 skip.length (skip.map aI) .any→E 3=x3→cP 1 s0 s3 x3 (k+SL.length+(iu skip (nu.take (i+1))).length) (cs++SL.map aI++(iu skip (nu.take (i+1))).map aI)→s0.le s3→K4 E s3:=by
      intro E s3 x3 f67 f66 f65 f2 f3 fx yh;refine eb _ _ ?_;clear eb K4;refine jD (Ai @f67 (bp i (by omega))) ?_;refine⟨⟨i+1,x3,by omega,rfl,f66,f65,f2,f3,fx,yh⟩,?_⟩;simp only[Nw,aH,↓reduceIte];omega
     clear eb;rw[J7] at bG;generalize iu skip (nu.take i)=F at *
     generalize hCS:cs++SL.map aI=CS at *
     refine jB (Ai @g65 (Ai @Nw (Ai @aq (Ai @y8 (Ai @Mr (Ai @GO @aI.eq_1)))))) ?_;refine jS @g2 fun K hK=>?_;refine ad (Df _ _) ?_;rintro r s3 ⟨rfl,rfl⟩;by_cases hs:u∈skip
     ·rw[decide_eq_true hs];rw[if_neg (fun q=>q hs),List.append_nil] at bG;refine jR hK ?_;clear hK K;refine jF ?_;refine ab ?_;simp only[ar,az,if_true,if_false];exact bG _ _ _ Nw Zf g65 g2 g3 hx hle
     ·rw[decide_eq_false hs];rw[if_pos hs] at bG;have e2:gO .i64 2 u=2*u:=dI (by omega);rw[List.length_append,List.length_singleton,List.map_append,List.map_cons,List.map_nil,←Nat.add_assoc,←List.append_assoc] at bG;refine jR hK ?_;clear hK K;refine jE ?_;rcases hx with⟨rfl,fg,rK⟩|⟨t',e,rfl,nF,iJ⟩
      ·refine wE fun K hK=>?_;simp only[↓DN,Qa,Qb,Qc,Qd,Qe,Qf,Qg,Qh,reduceCtorEq,↓reduceIte,Na,Nb,Nc,Nk,Nf,Ng,Nh,Za,Zb,Zc,TT,g3,e2,bL,List.replicate_succ];intro t' nF;refine hK _ _ ?_;simp only[ar,az,if_true,if_false];rw[fg,rK] at bG;exact bG _ _ (.sl 1 1 [.v (.int .i64 (2*u))] (.own t' 0)) Nw Zf g65 g2 rfl (.inr ⟨t',0,rfl,by simp[AS.bw],aZ hle nF⟩) (AS.bj hle (aZ hle nF) 0)
      ·refine wE fun K hK=>?_;simp only[↓DN,Qa,Qb,Qc,Qd,Qe,Qf,Qg,Qh,reduceCtorEq,↓reduceIte,Na,Nb,Nc,Nk,Nf,Ng,Nh,Za,Zb,Zc,TT,g3,e2,nF,List.replicate_succ];refine⟨by omega,by omega,hK _ _ ?_⟩;simp only[ar,az,if_true,if_false];exact bG _ _ (.sl 1 (k+SL.length+F.length+1) (CS++(F.map aI++[.v (.int .i64 (2*u))])) (.own t' (e+1))) Nw Zf g65 g2 rfl (.inr ⟨t',e+1,by rw[List.append_assoc];rfl,by simp[AS.bw],iJ⟩) (AS.bj hle iJ (e+1))
    ·refine jB (Ai @Nw (Ai @Zf (Ai @aq (decide_eq_false y8)))) ?_;refine wK fun K3 br=>?_;refine jF ?_;refine aC ?_;simp only[az,ar,if_true];refine aX _ _ ?_;clear aX K2 br K3;rw[List.take_of_length_le (by omega)] at hx;refine jB @g3 ?_;refine jI ?_;refine⟨_,_,AV.aB.refl _,AS.le.refl _,?_,hle⟩;rw[List.length_append,List.map_append,←Nat.add_assoc,←List.append_assoc];exact hx
  clear kh;refine ah ?_;refine wK fun K3 br=>?_;have h3:∀(E:Env),E 1=.v (.int .i64 n)→E 2=.sl 1 skip.length (skip.map aI) .any→E 9=.dr [.v (.int .i64 nk),.sl 1 nm.length (nm.map ai) .any,.v (.int .u64 ny),.sl 1 jj.length (jj.map ai) .any,.sl 1 nu.length (nu.map aI) .any]→E 3=x→E 25=.v (.bool false)→K3 E s:=by
   clear g0 g1 g2 g3 g9 g10 g11;intro E g1 g2 g9 g3 Uo;refine br _ _ ?_;clear br K3;refine wC fun X Y hX hY=>?_;refine jP (Ai @DB @Uo) ?_;refine hY ?_;clear hX hY X Y;refine wK fun K2 aX=>?_;have h2:∀(E:Env)(b:Bool),(b=true↔(nk=1∧((n/2:Nat):Int)∉skip)∨nk=2)→E 1=.v (.int .i64 n)→E 2=.sl 1 skip.length (skip.map aI) .any→E 9=.dr [.v (.int .i64 nk),.sl 1 nm.length (nm.map ai) .any,.v (.int .u64 ny),.sl 1 jj.length (jj.map ai) .any,.sl 1 nu.length (nu.map aI) .any]→E 3=x→E 46=.v (.bool b)→K2 E s:=by
    clear g1 g2 g3 g9 Uo;intro E b hb g1 g2 g9 g3 Up;refine aX _ _ ?_;clear aX K2;cases b with
    |false=>
     rw[if_neg (fun q=>by have:=hb.2 q;cases this)] at l8;subst l8;refine wC fun X Y hX hY=>?_;refine jP (Ai @DB @Up) ?_;refine hY ?_;clear hX hY X Y;refine ab ?_;simp only[ar,az,if_true,if_false];refine h1 _ _ x g1 g2 g9 g3 ?_ hle;simpa using hx
    |true=>
     rw[if_pos (hb.1 rfl)] at l8;subst l8;refine wC fun X Y hX hY=>?_;refine jP (Ai @DB @Up) ?_;refine hX ?_;clear hX hY X Y;rcases hx with⟨rfl,fg,rK⟩|⟨t',e,rfl,nF,iJ⟩
     ·refine wE fun K hK=>?_;simp only[↓DN,Qa,Qb,Qc,Qd,Qe,Qf,Qg,Qh,reduceCtorEq,↓reduceIte,Na,Nb,Nc,Nk,Nf,Ng,Nh,Za,Zb,Zc,TT,g3,g1,bL,List.replicate_succ];intro t' nF;refine hK _ _ ?_;simp only[ar,az,if_true,if_false];rw[fg,rK] at h1;exact h1 _ _ (.sl 1 1 [.v (.int .i64 (n:Int))] (.own t' 0)) g1 g2 g9 rfl (.inr ⟨t',0,rfl,by simp[AS.bw],aZ hle nF⟩) (AS.bj hle (aZ hle nF) 0)
     ·refine wE fun K hK=>?_;simp only[↓DN,Qa,Qb,Qc,Qd,Qe,Qf,Qg,Qh,reduceCtorEq,↓reduceIte,Na,Nb,Nc,Nk,Nf,Ng,Nh,Za,Zb,Zc,TT,g3,g1,nF,List.replicate_succ];refine⟨by omega,by omega,hK _ _ ?_⟩;simp only[ar,az,if_true,if_false];exact h1 _ _ (.sl 1 (k+1) (cs++[.v (.int .i64 (n:Int))]) (.own t' (e+1))) g1 g2 g9 rfl (.inr ⟨t',e+1,rfl,by simp[AS.bw],iJ⟩) (AS.bj hle iJ (e+1))
   clear aX;refine wK fun K4 eb=>?_;have h4:∀(E:Env)(b:Bool),(b=true↔nk=1∧((n/2:Nat):Int)∉skip)→E 1=.v (.int .i64 n)→E 2=.sl 1 skip.length (skip.map aI) .any→E 9=.dr [.v (.int .i64 nk),.sl 1 nm.length (nm.map ai) .any,.v (.int .u64 ny),.sl 1 jj.length (jj.map ai) .any,.sl 1 nu.length (nu.map aI) .any]→E 3=x→E 46=.v (.bool b)→K4 E s:=by
    clear g1 g2 g9 g3 Uo;intro E b hb g1 g2 g9 g3 Up;refine eb _ _ ?_;clear eb K4;cases b with
    |true=>
     refine wC fun X Y hX hY=>?_;refine jP (Ai @DB @Up) ?_;refine hX ?_;clear hX hY X Y;refine ab ?_;exact h2 _ true ⟨fun _=>.inl (hb.1 rfl),fun _=>rfl⟩ g1 g2 g9 g3 Up
    |false=>
     refine wC fun X Y hX hY=>?_;refine jP (Ai @DB @Up) ?_;refine hY ?_;clear hX hY X Y;have Km:¬(nk=1∧((n/2:Nat):Int)∉skip):=(fun q=>by have:=hb.2 q;cases this);by_cases k2:nk=2
     ·refine jU (Ai @g9 (lN k2)) fun K hK=>?_;exact hK _ _ (h2 _ true ⟨fun _=>.inr k2,fun _=>rfl⟩ g1 g2 g9 g3 rfl)
     ·refine jU (Ai @g9 (jv k2)) fun K hK=>?_;exact hK _ _ (h2 _ false ⟨(by intro h;cases h),fun q=>by rcases q with q|q;exact absurd q Km;exact absurd q k2⟩ g1 g2 g9 g3 rfl)
   clear eb;by_cases k1:nk=1
   ·refine jU (Ai @g9 (Ai (lN k1) (Ai @g2 (Ai @g1 (Ai @kS (dv n (by omega))))))) fun K hK=>?_;refine ad (Df _ _) ?_;rintro r s1 ⟨rfl,rfl⟩;by_cases hs:((n/2:Nat):Int)∈skip
    ·rw[decide_eq_true hs];refine jM ?_;exact hK _ _ (h4 _ false ⟨(by intro h;cases h),fun q=>absurd hs q.2⟩ g1 g2 g9 g3 rfl)
    ·rw[decide_eq_false hs];refine jM ?_;exact hK _ _ (h4 _ true ⟨fun _=>⟨k1,hs⟩,fun _=>rfl⟩ g1 g2 g9 g3 rfl)
   ·refine jU (Ai @g9 (jv k1)) fun K hK=>?_;exact hK _ _ (h4 _ false ⟨(by intro h;cases h),fun q=>absurd q.1 k1⟩ g1 g2 g9 g3 rfl)
  clear br;by_cases k0:nk=0
  ·obtain rfl:ok=false:=by
    cases ok with
    |false=>rfl
    |true=>exact absurd k0 (iN rfl)
   refine jU (Ai @g9 (Ai @g11 (lN k0))) fun K hK=>?_;exact hK _ _ (h3 _ g1 g2 g9 g3 rfl)
  ·refine jU (Ai @g9 (jv k0)) fun K hK=>?_;exact hK _ _ (h3 _ g1 g2 g9 g3 rfl)
 clear LZ;rcases tW with tW|tW
 ·rw[tW] at oo;refine jT fun K hK=>?_;refine ad (oo _) ?_;rintro r s1 ⟨rfl,rfl⟩;refine jM ?_;exact hK _ _ (h0 _ 0 false (by intro h;cases h) rfl rfl rfl rfl rfl rfl rfl)
 ·cases FF:fX (n:Int) with
  |none=>
   rw[FF] at oo;refine jT fun K hK=>?_;refine ad (oo _) ?_;rintro r s1 ⟨rfl,rfl⟩;refine jM ?_;exact hK _ _ (h0 _ 0 false (by intro h;cases h) rfl rfl rfl rfl rfl rfl rfl)
  |some p=>
   rw[FF] at oo;refine jT fun K hK=>?_;refine ad (oo _) ?_;rintro r s1 ⟨rfl,rfl⟩;refine jM ?_;exact hK _ _ (h0 _ p.1 true (fun _=>tW) rfl rfl rfl rfl rfl rfl rfl)
theorem wM(hG:Γ 3=fu.map pn)(t:List af)(iD:bd t)(skip:List Int)(Jz:skip.length≤2^61):∀(l n:Nat),lv n=l→n<63→n+2^l≤t.length→
  ∀(s0 s:AS)(x:AV)(k:Nat)(cs:List AV),cP 1 s0 s x k cs→s0.le s→k+33*2^l≤100000→
  aj prog Γ 124 [aW t,.v (.int .i64 n),aF skip .any,x] s (Pb s0 k cs (fy t skip l n)):=by
 intro l;induction l with
 |zero=>
  intro n hl hn hs s0 s x k cs hx hle hk;exact mL hG t iD skip Jz n hn (by have :(2:Nat)^0=1:=rfl;omega) (.inl (qu hn hl)) s0 s x k cs hx hle (by have :(2:Nat)^0=1:=rfl;omega)
 |succ l ih=>
  intro n hl hn hs s0 s x k cs hx hle hk;have ux:0<2^l:=Nat.two_pow_pos l;have Lm:2^(l+1)=2^l+2^l:=(by rw[Nat.pow_succ];omega);have hi:n<t.length:=(by omega);by_cases k0:(nd t n).kind=0
  ·have dJ:fy t skip (l+1) n=fy t skip l (n-2^l)++fy t skip l (n+2^l):=(by simp only[fy];exact if_pos k0);rw[dJ];refine aa func124 rfl ntmps124 results124 (by simp) ?_;obtain⟨FF,Qk,BM,w9,Fu,Nt⟩:=mH hn hl;have oo:=fun s=>ik (Γ:=Γ) hG (n:Int) (by omega) s;have Zd:=fun s=>mR (Γ:=Γ) hG (n:Int) (by omega) s;rw[FF] at oo Zd;have Zg:=j9 iD skip l (n-2^l);have h1:=fun s hle=>ih (n-2^l) Qk (by omega) (by omega) s0 s x k cs hle;have h2:=fun s r hx=>ih (n+2^l) BM w9 (by omega) s0 s r (k+(fy t skip l (n-2^l)).length) (cs++(fy t skip l (n-2^l)).map aI) hx;have cx:=cK hi;clear ih dJ;generalize fy t skip l (n-2^l)=L1 at *
   generalize fy t skip l (n+2^l)=L2 at *
   generalize nd t n=N at *
   unfold aW at *
   generalize aK af.cells t=X at *
   obtain⟨nk,nm,ny,jj,nu⟩:=N;unfold af.cells at cx;unfold aF at *
   simp only at k0;subst k0;have cl:(0:Int)≤(n:Int):=(by omega);refine jA ?_;refine aU 9 (by decide) ?_;intro K hK;simp only[↓DM,bN,DX,Nz,↓DN,Qa,Qb,Qc,Qd,Qe,Qf,Qg,Qh,reduceCtorEq,↓reduceIte,Na,Nb,Nc,Nk,Nf,Ng,Nh,Za,Zb,Zc,TT,aq,hi,cl,cx];intro o1 xr;refine hK _ _ o1 _ rfl xr ?_;clear hK K xr;refine jK (oo _) ?_;rintro s1 rfl;refine wK fun K1 kh=>?_;refine ah ?_;refine jA ?_;refine jE ?_;refine jK (Zd _) ?_;rintro s2 rfl;refine jQ fun K hK=>?_;refine ad (h1 _ hx hle (by omega)) ?_;rintro r s3 ⟨hx3,gQ⟩;refine jM ?_;refine ad (h2 _ _ hx3 gQ (by omega)) ?_;rintro r2 s4 ⟨Zh,eM⟩;refine jR hK ?_;clear hK K;refine jI ?_;refine⟨_,_,AV.aB.refl _,AS.le.refl _,?_,eM⟩;rw[List.length_append,List.map_append,←Nat.add_assoc,←List.append_assoc];exact Zh
  ·have dJ:fy t skip (l+1) n=kI skip (nd t n) n++iu skip (nd t n).ig:=(by simp only[fy];exact if_neg k0);rw[dJ];exact mL hG t iD skip Jz n hn hi (.inr k0) s0 s x k cs hx hle (by omega)
theorem iY(hG:Γ 3=fu.map pn)(t:List af)(ht:dE t)(x:Int)(skip:List Int)(Jz:skip.length≤2^61)(s:AS):
  aj prog Γ 61 [aW t,.v (.int .i64 x),aF skip .any] s (fun r s'=>r=aF (bA t x skip) .any∧s'=s):=by
 refine aa func61 rfl ntmps61 results61 (by simp) ?_;have hr:=fun s=>jk (Γ:=Γ) hG t ht s;have hh:=fun(iD:bd t)n hn hs s=>wM (Γ:=Γ) hG t iD skip Jz (lv n) n rfl hn hs s s bL 0 [] (cP.nil _ _ _) (AS.le.refl _);have me:=ht.1;have qC:¬(0≤x∧x<(t.length:Int)∧bd t)→bA t x skip=[]:=fun h=>if_neg h;have CN:0≤x∧x<(t.length:Int)∧bd t→bA t x skip=fy t skip (lv x.toNat) x.toNat:=fun h=>if_pos h;unfold aW at *
 generalize aK af.cells t=X at *
 unfold bL at hh;refine jA ?_;refine wK fun K hK=>?_;by_cases h0:x<0
 ·refine jB (decide_eq_true h0) ?_;refine jE ?_;refine jA ?_;refine jI ?_;refine⟨_,_,AV.aN (sz:=1),AS.le.refl _,?_,rfl⟩;rw[qC (fun k=>by omega)];rfl
 ·by_cases h1:(t.length:Int)≤x
  ·refine jB (Ai (decide_eq_false h0) (decide_eq_true h1)) ?_;refine jE ?_;refine jA ?_;refine jI ?_;refine⟨_,_,AV.aN (sz:=1),AS.le.refl _,?_,rfl⟩;rw[qC (fun k=>by omega)];rfl
  ·refine jS (Ai (decide_eq_false h0) (decide_eq_false h1)) fun K hK=>?_;refine ad (hr _) ?_;rintro r s1 ⟨rfl,rfl⟩;by_cases iD:bd t
   ·rw[decide_eq_true iD];refine jR hK ?_;clear hK K;refine jF ?_;refine ab ?_;refine hK _ _ ?_;clear hK K;obtain⟨n,rfl⟩:=Int.eq_ofNat_of_zero_le (show 0≤x by omega);have hn:n<t.length:=(by omega);obtain⟨gC,ng⟩:=iD.span hn;have AF:=mE (oF n);refine jQ fun K hK=>?_;refine ad (hh iD n ng gC _ (by omega)) ?_;rintro r s2 ⟨hx,hle⟩;refine jR hK ?_;clear hK K;refine jI ?_;refine⟨_,_,hx.aB,hle,?_,rfl⟩;rw[CN ⟨by omega,by omega,iD⟩,Int.toNat_natCast];unfold aF;rw[Nat.zero_add,List.nil_append]
   ·rw[decide_eq_false iD];refine jR hK ?_;clear hK K;refine jE ?_;refine jA ?_;refine jI ?_;refine⟨_,_,AV.aN (sz:=1),AS.le.refl _,?_,rfl⟩;rw[qC (fun k=>iD k.2.2)];rfl
theorem BA(l:List Int)(v:Int)(hl:l.length≤2^61)(s:AS):aj prog Γ 23 [aF l .any,.v (.int .i64 v)] s (fun r s'=>r=.v (.bool (decide (v∈l)))∧s'=s):=by
 refine aa func23 rfl ntmps23 results23 (by simp) ?_;unfold aF;refine jA ?_;refine wK fun K hK=>?_;refine jA ?_;refine ah ?_;refine aD (fun E s2=>∃i:Nat,i≤l.length∧v∉l.take i∧E 5=.v (.int .i64 i)∧E 0=.sl 1 l.length (l.map aI) .any∧E 1=.v (.int .i64 v)∧s2=s)
  (fun E _=>match E 5 with |.v (.int _ i)=>l.length-i.toNat|_=>0) ?_ ?_
 ·exact⟨0,Nat.zero_le _,by simp,rfl,rfl,rfl,rfl⟩
 ·rintro E1 s2 ⟨i,hi,hv,g5,g0,g1,rfl⟩ -
  refine wK fun K2 aX=>?_;by_cases aY:i<l.length
  ·refine jB (Ai @g5 (Ai @g0 (Ai @aq (decide_eq_true aY)))) ?_;refine jE ?_;refine ab ?_;refine aX _ _ ?_;clear aX K2;refine wK fun K3 br=>?_;refine ah ?_;have cx:=ea aY;have cl:(0:Int)≤(i:Int):=(by omega);have nQ:l[i]∈l:=List.getElem_mem aY;have dM:l.take (i+1)=l.take i++[l[i]]:=List.take_succ_eq_append_getElem aY;generalize l[i]=u at *
   by_cases hq:u=v
   ·refine jB (Ai @g0 (Ai @g1 (Ai @g5 (Ai @aq (Ai @aY (Ai @cl (Ai @cx (Ai @aI.eq_1 (lN hq))))))))) ?_;refine jE ?_;refine jA ?_;refine jI ?_;rw[decide_eq_true (by rw[←hq];exact nQ)];exact jW ⟨rfl,rfl⟩
   ·refine jB (Ai @g0 (Ai @g1 (Ai @g5 (Ai @aq (Ai @aY (Ai @cl (Ai @cx (Ai @aI.eq_1 (jv hq))))))))) ?_;refine jF ?_;refine ab ?_;simp only[ar,az,if_true,if_false];refine br _ _ ?_;clear br K3;refine jD (Ai @g5 (bp i (by omega))) ?_;refine⟨⟨i+1,by omega,?_,rfl,g0,g1,rfl⟩,?_⟩
    ·rw[dM,List.mem_append,List.mem_singleton];rintro(h|h)
     ·exact hv h
     ·exact hq h.symm
    ·simp only[g5,aH,↓reduceIte];omega
  ·refine jB (Ai @g5 (Ai @g0 (Ai @aq (decide_eq_false aY)))) ?_;refine jF ?_;refine aC ?_;simp only[az,ar,if_true];refine hK _ _ ?_;clear hK aX K2 K;rw[List.take_of_length_le (by omega)] at hv;refine jA ?_;refine jI ?_;rw[decide_eq_false hv];exact jW ⟨rfl,rfl⟩
theorem kg(t:List af)(iD:bd t)(skip:List Int)(Jz:skip.length≤2^61)(n:Nat)(IE:n<63)(hi:n<t.length)(tW:(nd t n).kind≠0)(s:AS):
  aj prog Γ 26 [aW t,.v (.int .i64 n),aF skip .any] s (Pb s 0 [] (kI skip (nd t n) n++iu skip (nd t n).ig)):=by
 refine aa func26 rfl ntmps26 results26 (by simp) ?_;have oo:=fun s=>cR (Γ:=Γ) (n:Int) (by omega) s;have Df:=fun v s=>BA (Γ:=Γ) skip v Jz s;have cx:=cK hi;have Ze:=nv (iD.nd n);have tn:=qv skip (nd t n) n;have xcG:=iX (iD.nd n);have l8:kI skip (nd t n) n=if((nd t n).kind=1∧((n/2:Nat):Int)∉skip)∨(nd t n).kind=2 then[(n:Int)] else[]:=rfl
 generalize kI skip (nd t n) n=SL at *
 generalize nd t n=N at *
 unfold aW;generalize aK af.cells t=X at *
 obtain⟨nk,nm,ny,jj,nu⟩:=N;unfold af.cells at cx;unfold aF at cx Df⊢;simp only at Ze l8 tW xcG;have cl:(0:Int)≤(n:Int):=(by omega);refine jA ?_;refine aU 7 (by decide) ?_;intro K hK;simp only[↓DM,bN,DX,Nz,↓DN,Qa,Qb,Qc,Qd,Qe,Qf,Qg,Qh,reduceCtorEq,↓reduceIte,Na,Nb,Nc,Nk,Nf,Ng,Nh,Za,Zb,Zc,TT,aq,hi,cl,cx];intro o1 h1;refine hK _ _ o1 _ rfl h1 ?_;clear hK K h1;refine wK fun K0 LZ=>?_;have h0:∀(E:Env),E 1=.v (.int .i64 n)→E 2=.sl 1 skip.length (skip.map aI) .any→E 7=.dr [.v (.int .i64 nk),.sl 1 nm.length (nm.map ai) .any,.v (.int .u64 ny),.sl 1 jj.length (jj.map ai) .any,.sl 1 nu.length (nu.map aI) .any]→K0 E s:=by
  intro E g1 g2 g7;refine LZ _ _ ?_;clear LZ K0;refine wK fun K1 kh=>?_;refine jB (Ai @g7 (jv tW)) ?_;refine jF ?_;refine ab ?_;refine kh _ _ ?_;clear kh K1;refine jA ?_;refine wK fun K2 aX=>?_;have h2:∀(E:Env)(s1:AS)(x1:AV),E 2=.sl 1 skip.length (skip.map aI) .any→E 7=.dr [.v (.int .i64 nk),.sl 1 nm.length (nm.map ai) .any,.v (.int .u64 ny),.sl 1 jj.length (jj.map ai) .any,.sl 1 nu.length (nu.map aI) .any]→E 11=x1→cP 1 s s1 x1 SL.length (SL.map aI)→s.le s1→K2 E s1:=by
   clear g1 g2 g7;intro E s1 x1 g2 g7 g11 hx hle;refine aX _ _ ?_;clear aX K2;refine wK fun K3 br=>?_;refine jA ?_;refine ah ?_;refine aD (fun E s2=>∃(i:Nat)(x2:AV),i≤nu.length∧E 12=.v (.int .i64 i)∧E 7=.dr [.v (.int .i64 nk),.sl 1 nm.length (nm.map ai) .any,.v (.int .u64 ny),.sl 1 jj.length (jj.map ai) .any,.sl 1 nu.length (nu.map aI) .any]∧E 2=.sl 1 skip.length (skip.map aI) .any∧E 11=x2∧cP 1 s s2 x2 (SL.length+(iu skip (nu.take i)).length) (SL.map aI++(iu skip (nu.take i)).map aI)∧s.le s2)
    (fun E _=>match E 12 with |.v (.int _ i)=>nu.length-i.toNat|_=>0) ?_ ?_
   ·refine⟨0,x1,Nat.zero_le _,rfl,g7,g2,g11,?_,hle⟩;have :iu skip (nu.take 0)=[]:=(by simp[iu]);rw[this];simpa using hx
   ·clear g2 g7 g11 hx hle;rintro E2 s2 ⟨i,x2,aY,g12,g7,g2,g11,hx,hle⟩ -
    refine wK fun K4 eb=>?_;by_cases y8:i<nu.length
    ·refine jB (Ai @g12 (Ai @g7 (Ai @aq (decide_eq_true y8)))) ?_;refine jE ?_;refine ab ?_;refine eb _ _ ?_;clear eb K4;refine wK fun K5 jZ=>?_;refine ah ?_;have Mr:(0:Int)≤(i:Int):=(by omega);have GO:=ea y8;have hub:=Ze.2 nu[i] (List.getElem_mem y8);have J7:=Bo (skip:=skip) y8;have hlen:=tG skip (nu.take i);have bJ:(nu.take i).length=i:=(by rw[List.length_take];omega);generalize nu[i]=u at *
     have bG:∀(E:Env)(s3:AS)(x3:AV),E 12=.v (.int .i64 i)→E 7=.dr [.v (.int .i64 nk),.sl 1 nm.length (nm.map ai) .any,.v (.int .u64 ny),.sl 1 jj.length (jj.map ai) .any,.sl 1 nu.length (nu.map aI) .any]→E 2=.sl 1 skip.length (skip.map aI) .any→E 11=x3→cP 1 s s3 x3 (SL.length+(iu skip (nu.take (i+1))).length) (SL.map aI++(iu skip (nu.take (i+1))).map aI)→s.le s3→K5 E s3:=by
      intro E s3 x3 f12 f7 f2 f11 fx yh;refine jZ _ _ ?_;clear jZ K5;refine jD (Ai @f12 (bp i (by omega))) ?_;refine⟨⟨i+1,x3,by omega,rfl,f7,f2,f11,fx,yh⟩,?_⟩;simp only[g12,aH,↓reduceIte];omega
     clear jZ;rw[J7] at bG;generalize iu skip (nu.take i)=F at *
     generalize hCS:SL.map aI=CS at *
     refine jS (Ai @g2 (Ai @g7 (Ai @g12 (Ai @aq (Ai @y8 (Ai @Mr (Ai @GO @aI.eq_1))))))) fun K hK=>?_;refine ad (Df _ _) ?_;rintro r s3 ⟨rfl,rfl⟩;by_cases hs:u∈skip
     ·rw[decide_eq_true hs];rw[if_neg (fun q=>q hs),List.append_nil] at bG;refine jR hK ?_;clear hK K;refine jF ?_;refine ab ?_;simp only[ar,az,if_true,if_false];exact bG _ _ _ g12 g7 g2 g11 hx hle
     ·rw[decide_eq_false hs];rw[if_pos hs] at bG;have e2:gO .i64 2 u=2*u:=dI (by omega);rw[List.length_append,List.length_singleton,List.map_append,List.map_cons,List.map_nil,←Nat.add_assoc,←List.append_assoc] at bG;refine jR hK ?_;clear hK K;refine jE ?_;rcases hx with⟨rfl,fg,rK⟩|⟨t',e,rfl,nF,iJ⟩
      ·refine wE fun K hK=>?_;simp only[↓DN,Qa,Qb,Qc,Qd,Qe,Qf,Qg,Qh,reduceCtorEq,↓reduceIte,Na,Nb,Nc,Nk,Nf,Ng,Nh,Za,Zb,Zc,TT,g11,g7,g12,aq,y8,Mr,GO,aI,e2,bL,List.replicate_succ];intro t' nF;refine hK _ _ ?_;simp only[ar,az,if_true,if_false];rw[fg,rK] at bG;exact bG _ _ (.sl 1 1 [.v (.int .i64 (2*u))] (.own t' 0)) g12 g7 g2 rfl (.inr ⟨t',0,rfl,by simp[AS.bw],aZ hle nF⟩) (AS.bj hle (aZ hle nF) 0)
      ·refine wE fun K hK=>?_;simp only[↓DN,Qa,Qb,Qc,Qd,Qe,Qf,Qg,Qh,reduceCtorEq,↓reduceIte,Na,Nb,Nc,Nk,Nf,Ng,Nh,Za,Zb,Zc,TT,g11,g7,g12,aq,y8,Mr,GO,aI,e2,nF,List.replicate_succ];refine⟨by omega,by omega,hK _ _ ?_⟩;simp only[ar,az,if_true,if_false];exact bG _ _ (.sl 1 (SL.length+F.length+1) (CS++(F.map aI++[.v (.int .i64 (2*u))])) (.own t' (e+1))) g12 g7 g2 rfl (.inr ⟨t',e+1,by rw[List.append_assoc];rfl,by simp[AS.bw],iJ⟩) (AS.bj hle iJ (e+1))
    ·refine jB (Ai @g12 (Ai @g7 (Ai @aq (decide_eq_false y8)))) ?_;refine jF ?_;refine aC ?_;simp only[az,ar,if_true];refine br _ _ ?_;clear br K3 eb K4;rw[List.take_of_length_le (by omega)] at hx;refine jB @g11 ?_;refine jI ?_;refine⟨_,_,AV.aB.refl _,AS.le.refl _,?_,hle⟩;rw[List.length_append,List.map_append,Nat.zero_add,List.nil_append];exact hx
  clear aX;by_cases hb:(nk=1∧((n/2:Nat):Int)∉skip)∨nk=2
  ·rw[if_pos hb] at l8;subst l8;have OL:∀(E:Env),E 1=.v (.int .i64 n)→E 2=.sl 1 skip.length (skip.map aI) .any→E 7=.dr [.v (.int .i64 nk),.sl 1 nm.length (nm.map ai) .any,.v (.int .u64 ny),.sl 1 jj.length (jj.map ai) .any,.sl 1 nu.length (nu.map aI) .any]→E 11=.v (.slice none 0 0)→E 46=.v (.bool true)→True:=fun _ _ _ _ _ _=>trivial;clear OL;by_cases k2:nk=2
   ·refine jB (Ai @g7 (lN k2)) ?_;refine jE ?_;refine wE fun K hK=>?_;simp only[↓DN,Qa,Qb,Qc,Qd,Qe,Qf,Qg,Qh,reduceCtorEq,↓reduceIte,Na,Nb,Nc,Nk,Nf,Ng,Nh,Za,Zb,Zc,TT,g1,List.replicate_succ];intro t' nF;exact hK _ _ (h2 _ _ (.sl 1 1 [.v (.int .i64 (n:Int))] (.own t' 0)) g2 g7 rfl (.inr ⟨t',0,rfl,by simp[AS.bw],nF⟩) (AS.bj (AS.le.refl _) nF 0))
   ·have hs:((n/2:Nat):Int)∉skip:=(hb.resolve_right k2).2;refine jS (Ai @g7 (Ai (jv k2) (Ai @g1 (Ai @g2 (Ai @kS (dv n (by omega))))))) fun K hK=>?_;refine ad (Df _ _) ?_;rintro r s1 ⟨rfl,rfl⟩;rw[decide_eq_false hs];refine jR hK ?_;clear hK K;refine jE ?_;refine wE fun K hK=>?_;simp only[↓DN,Qa,Qb,Qc,Qd,Qe,Qf,Qg,Qh,reduceCtorEq,↓reduceIte,Na,Nb,Nc,Nk,Nf,Ng,Nh,Za,Zb,Zc,TT,g1,List.replicate_succ];intro t' nF;exact hK _ _ (h2 _ _ (.sl 1 1 [.v (.int .i64 (n:Int))] (.own t' 0)) g2 g7 rfl (.inr ⟨t',0,rfl,by simp[AS.bw],nF⟩) (AS.bj (AS.le.refl _) nF 0))
  ·rw[if_neg hb] at l8;subst l8;have k2:nk≠2:=fun q=>hb (.inr q);have k1:nk=1:=(by omega);have hs:((n/2:Nat):Int)∈skip:=by
    by_cases q:((n/2:Nat):Int)∈skip
    ·exact q
    ·exact absurd (.inl ⟨k1,q⟩) hb
   refine jS (Ai @g7 (Ai (jv k2) (Ai @g1 (Ai @g2 (Ai @kS (dv n (by omega))))))) fun K hK=>?_;refine ad (Df _ _) ?_;rintro r s1 ⟨rfl,rfl⟩;rw[decide_eq_true hs];refine jR hK ?_;clear hK K;refine jF ?_;refine ab ?_;exact h2 _ _ (.v (.slice none 0 0)) g2 g7 rfl (cP.nil _ _ _) (AS.le.refl _)
 clear LZ;cases FF:fX (n:Int) with
 |none=>
  rw[FF] at oo;refine jT fun K hK=>?_;refine ad (oo _) ?_;rintro r s1 ⟨rfl,rfl⟩;refine jM ?_;exact hK _ _ (h0 _ rfl rfl rfl)
 |some p=>
  rw[FF] at oo;refine jT fun K hK=>?_;refine ad (oo _) ?_;rintro r s1 ⟨rfl,rfl⟩;refine jM ?_;exact hK _ _ (h0 _ rfl rfl rfl)
theorem r3(t:List af)(iD:bd t)(skip:List Int)(Jz:skip.length≤2^61):∀(l n:Nat),lv n=l→n<63→n+2^l≤t.length→
  ∀(s:AS),aj prog Γ 26 [aW t,.v (.int .i64 n),aF skip .any] s (Pb s 0 [] (fy t skip l n)):=by
 intro l;induction l with
 |zero=>
  intro n hl hn hs s;have hi:n<t.length:=(by have :(2:Nat)^0=1:=rfl;omega);by_cases k0:(nd t n).kind=0
  ·have hN:=(lM k0).1 (iD.nd n);have dJ:fy t skip 0 n=[]:=by
    simp only[fy];rw[hN];simp[kI,iu,af.gH]
   rw[dJ];refine aa func26 rfl ntmps26 results26 (by simp) ?_;have oo:=fun s=>cR (Γ:=Γ) (n:Int) (by omega) s;rw[qu hn hl] at oo;have cx:=cK hi;rw[hN] at cx;unfold aW;generalize aK af.cells t=X at *
   unfold af.gH af.cells at cx;unfold aF at *
   simp only at cx;have cl:(0:Int)≤(n:Int):=(by omega);refine jA ?_;refine aU 7 (by decide) ?_;intro K hK;simp only[↓DM,bN,DX,Nz,↓DN,Qa,Qb,Qc,Qd,Qe,Qf,Qg,Qh,reduceCtorEq,↓reduceIte,Na,Nb,Nc,Nk,Nf,Ng,Nh,Za,Zb,Zc,TT,aq,hi,cl,cx];intro o1 h1;refine hK _ _ o1 _ rfl h1 ?_;clear hK K h1;refine jK (oo _) ?_;rintro s1 rfl;refine wK fun K hK=>?_;refine jA ?_;refine jE ?_;refine wK fun K2 aX=>?_;refine jA ?_;refine jE ?_;refine jA ?_;refine jI ?_;exact jW ⟨cP.nil _ _ _,AS.le.refl _⟩
  ·have dJ:fy t skip 0 n=kI skip (nd t n) n++iu skip (nd t n).ig:=rfl;rw[dJ];exact kg t iD skip Jz n hn hi k0 s
 |succ l ih=>
  intro n hl hn hs s;have ux:0<2^l:=Nat.two_pow_pos l;have Lm:2^(l+1)=2^l+2^l:=(by rw[Nat.pow_succ];omega);have hi:n<t.length:=(by omega);by_cases k0:(nd t n).kind=0
  ·have dJ:fy t skip (l+1) n=fy t skip l (n-2^l)++fy t skip l (n+2^l):=(by simp only[fy];exact if_pos k0);rw[dJ];refine aa func26 rfl ntmps26 results26 (by simp) ?_;obtain⟨FF,Qk,BM,w9,Fu,Nt⟩:=mH hn hl;have oo:=fun s=>cR (Γ:=Γ) (n:Int) (by omega) s;rw[FF] at oo;have Zg:=j9 iD skip l (n-2^l);have xfX:=j9 iD skip l (n+2^l);have h1:=fun s=>ih (n-2^l) Qk (by omega) (by omega) s;have h2:=fun s=>ih (n+2^l) BM w9 (by omega) s;have cx:=cK hi;clear ih dJ;generalize fy t skip l (n-2^l)=L1 at *
   generalize fy t skip l (n+2^l)=L2 at *
   generalize nd t n=N at *
   unfold aW at *
   generalize aK af.cells t=X at *
   obtain⟨nk,nm,ny,jj,nu⟩:=N;unfold af.cells at cx;unfold aF at *
   simp only at k0;subst k0;have cl:(0:Int)≤(n:Int):=(by omega);refine jA ?_;refine aU 7 (by decide) ?_;intro K hK;simp only[↓DM,bN,DX,Nz,↓DN,Qa,Qb,Qc,Qd,Qe,Qf,Qg,Qh,reduceCtorEq,↓reduceIte,Na,Nb,Nc,Nk,Nf,Ng,Nh,Za,Zb,Zc,TT,aq,hi,cl,cx];intro o1 xr;refine hK _ _ o1 _ rfl xr ?_;clear hK K xr;refine jK (oo _) ?_;rintro s1 rfl;refine wK fun K hK=>?_;refine jA ?_;refine jE ?_;refine wK fun K2 aX=>?_;refine jA ?_;refine jF ?_;refine ab ?_;refine aX _ _ ?_;clear aX K2;refine jQ fun K hK=>?_;refine ad (h1 _) ?_;rintro r s3 ⟨hx3,gQ⟩;rw[Nat.zero_add,List.nil_append] at hx3;refine jM ?_;refine ad (h2 _) ?_;rintro r2 s4 ⟨Zh,eM⟩;rw[Nat.zero_add,List.nil_append] at Zh;have hle:=gQ.trans eM;have hR:∀(r:AV)(s':AS),cP 1 s1 s' r (L1.length+L2.length) (L1.map aI++L2.map aI)→s1.le s'→Pb s1 0 [] (L1++L2) r s':=by
    intro r s' h1 h2;unfold Pb;rw[Nat.zero_add,List.nil_append,List.length_append,List.map_append];exact⟨h1,h2⟩
   rcases hx3 with⟨rfl,fg,rK⟩|⟨t',e,rfl,nF,iJ⟩
   ·rcases Zh with⟨rfl,hj0,hM0⟩|⟨t2,e2,rfl,OH,xcJ⟩
    ·simp only[↓DM,bN,DX,Nz,↓DN,Qa,Qb,Qc,Qd,Qe,Qf,Qg,Qh,reduceCtorEq,↓reduceIte,Na,Nb,Nc,Nk,Nf,Ng,Nh,Za,Zb,Zc,TT,bL];refine hK _ _ ?_;clear hK K;refine jI ?_;refine⟨_,_,AV.aB.refl _,AS.le.refl _,hR _ _ ?_ hle⟩;rw[fg,hj0,rK,hM0];exact cP.nil _ _ _
    ·simp only[↓DM,bN,DX,Nz,↓DN,Qa,Qb,Qc,Qd,Qe,Qf,Qg,Qh,reduceCtorEq,↓reduceIte,Na,Nb,Nc,Nk,Nf,Ng,Nh,Za,Zb,Zc,TT,bL];by_cases hz:L2.length=0
     ·rw[if_pos hz];refine hK _ _ ?_;clear hK K;refine jI ?_;refine⟨_,_,AV.aB.refl _,AS.le.refl _,hR _ _ ?_ hle⟩;rw[fg,hz,rK,List.eq_nil_of_length_eq_zero hz];exact cP.nil _ _ _
     ·rw[if_neg hz];refine⟨by omega,by omega,?_⟩;intro t5 ht5;refine hK _ _ ?_;clear hK K;refine jI ?_;refine⟨_,_,AV.aB.refl _,AS.le.refl _,hR _ _ ?_ (AS.bj hle (aZ hle ht5) 0)⟩;rw[fg,rK,Nat.zero_add,List.nil_append];exact .inr ⟨t5,0,rfl,by simp[AS.bw],aZ hle ht5⟩
   ·rcases Zh with⟨rfl,hj0,hM0⟩|⟨t2,e2,rfl,OH,xcJ⟩
    ·simp only[↓DM,bN,DX,Nz,↓DN,Qa,Qb,Qc,Qd,Qe,Qf,Qg,Qh,reduceCtorEq,↓reduceIte,Na,Nb,Nc,Nk,Nf,Ng,Nh,Za,Zb,Zc,TT,bL,eM.own _ _ nF];refine hK _ _ ?_;clear hK K;refine jI ?_;refine⟨_,_,AV.aB.refl _,AS.le.refl _,hR _ _ ?_ hle⟩;rw[hj0,hM0,Nat.add_zero,List.append_nil];exact .inr ⟨t',e,rfl,eM.own _ _ nF,iJ⟩
    ·refine jN (eM.own _ _ nF) ?_;by_cases hz:L2.length=0
     ·rw[if_pos hz];refine hK _ _ ?_;clear hK K;refine jI ?_;refine⟨_,_,AV.aB.refl _,AS.le.refl _,hR _ _ ?_ hle⟩;rw[hz,List.eq_nil_of_length_eq_zero hz,List.map_nil,Nat.add_zero,List.append_nil];exact .inr ⟨t',e,rfl,eM.own _ _ nF,iJ⟩
     ·rw[if_neg hz];refine⟨by omega,by omega,by simp[List.all_eq_true,aI,AV.one],?_⟩;refine hK _ _ ?_;clear hK K;refine jI ?_;refine⟨_,_,AV.aB.refl _,AS.le.refl _,hR _ _ ?_ (AS.bj hle iJ (e+1))⟩;exact .inr ⟨t',e+1,rfl,by simp[AS.bw],iJ⟩
  ·have dJ:fy t skip (l+1) n=kI skip (nd t n) n++iu skip (nd t n).ig:=(by simp only[fy];exact if_neg k0);rw[dJ];exact kg t iD skip Jz n hn hi k0 s
def CV(s s':AS)(r:AV)(l:List Int):Prop:=ni 1 s' r l.length (l.map aI)∧(∀o,vU r=some o→s.aw o=none)∧s.le s'
theorem y9(s:AS):aj prog Γ 191 [bL] s (fun r s'=>CV s s' r []):=by
 refine aa func191 rfl ntmps191 results191 (by simp) ?_;unfold bL;refine jA ?_;refine wK fun K hK=>?_;refine jA ?_;refine jE ?_;refine jA ?_;refine jI ?_;exact⟨_,_,AV.aB.refl _,AS.le.refl _,.inl ⟨rfl,rfl,.inl rfl⟩,(fun o h=>by cases h),AS.le.refl _⟩
theorem Au(l:List Int)(s:AS)(hl:l.length≤2^42):aj prog Γ 191 [aF l .no] s (fun r s'=>CV s s' r l):=by
 refine aa func191 rfl ntmps191 results191 (by simp) ?_;unfold aF;refine jA ?_;refine wK fun K hK=>?_;refine jB @and_false ?_;refine jF ?_;refine ab ?_;refine hK _ _ ?_;clear hK K;by_cases h0:l.length=0
 ·have uj:l=[]:=List.eq_nil_of_length_eq_zero h0;subst uj;refine jA ?_;refine jI ?_;exact⟨_,s,AV.aB.refl _,AS.le.refl s,.inl ⟨rfl,rfl,.inr (.inr rfl)⟩,(fun o h=>by cases h),AS.le.refl _⟩
 ·refine vF rfl (by decide) ?_;intro ops;refine jM ?_;refine⟨_,fun G a w hr=>ie (n:=0) (m:=l.length) (cs:=[]) (ds:=l.map aI) (e:=3) (z:=[.v (.int .i64 0)]) rfl underlying24 (by simp only[↓DN,Qa,Qb,Qc,Qd,Qe,Qf,Qg,Qh,reduceCtorEq,↓reduceIte,Na,Nb,Nc,Nk,Nf,Ng,Nh,Za,Zb,Zc,TT];try rfl) (by simp only[↓DN,Qa,Qb,Qc,Qd,Qe,Qf,Qg,Qh,reduceCtorEq,↓reduceIte,Na,Nb,Nc,Nk,Nf,Ng,Nh,Za,Zb,Zc,TT];try rfl) (by rw[T.c3];decide) (by rw[T.c3];rfl) (by simp only[↓DN,Qa,Qb,Qc,Qd,Qe,Qf,Qg,Qh,reduceCtorEq,↓reduceIte,Na,Nb,Nc,Nk,Nf,Ng,Nh,Za,Zb,Zc,TT,gX,aO,aH,Nc,↓reduceIte]) h0 (by rw[T.b3];omega) (by omega) (by simp[List.all_eq_true,aI,AV.one]) (by rw[T.c3];exact .inl ⟨rfl,rfl,.inr (.inr rfl)⟩) hr.eval hr.st,?_⟩;rw[T.c3];rintro r s1 ⟨ob,cap,rest,rfl,gu,Db,uF,oi,rfl⟩;refine jM ?_;refine jI ?_;have oi:s.aw ob=none:=by
   rcases oi with h|⟨_,h⟩
   ·exact h
   ·simp[aO,aH] at h
  rw[Nat.zero_add,Nat.mul_one] at *
  refine⟨_,_,AV.aB.refl _,AS.le.refl _,.inr ⟨ob,cap,rest,rfl,AS.ae _ _ _,by simp,by rw[Nat.mul_one];exact uF,gu,Db⟩,fun o h=>?_,AS.aE (AS.le.refl s) oi _⟩;cases h;exact oi
theorem va(l:List Int)(s:AS)(hl:l.length≤2^42):aj prog Γ 191 [aF l .any] s (fun r s'=>CV s s' r l):=
 aj.anyS (post:=[]) (fun e _=>by obtain rfl:l=[]:=List.eq_nil_of_length_eq_zero e;exact y9 s) (Au l s hl)
theorem vb(N:af)(hm:N.name.length≤2^45)(hp:N.parent.length≤2^45)(hu:N.ig.length≤2^42)(s:AS):aj prog Γ 156 [.agg N.cells] s (fun r s'=>∃x,r=.agg (gj (N,x))∧CV s s' x N.ig):=by
 refine aa func156 rfl ntmps156 results156 (by simp) ?_;unfold af.cells;obtain⟨k,m,y,pa,u⟩:=N;simp only at hp hu hm;refine jS @aF.eq_1 fun K hK=>?_;intro o1 xr o2 qG;have NJ:o2≠o1:=by
  rintro rfl;simp[AS.set] at qG
 have zX:=NJ.symm;have h20:s.aw o2=none:=(by simpa[AS.set,aH,NJ] using qG);refine hK _ _ ?_;clear hK K;refine dC T.mixed [(o1,[.v (.int .i64 k),.sl 1 m.length (m.map ai) .any,.v (.int .u64 y),.sl 1 pa.length (pa.map ai) .any,.sl 1 u.length (u.map aI) .any])] [2,5,8] [1,4,7] [10,12,14] (by kernel_rfl) (by simp only[aG,aJ,and_true];simp[AS.set,aH,zX,NJ]) ?_;intro K hK;simp only[↓bo,↓a7,da,cX,aL,aR,aG,aJ,List.any_cons,List.any_nil,List.contains_cons,List.contains_nil,Nat.reduceBEq,Bool.or_false,Bool.or_true,Bool.or_self,Bool.false_or,↓DN,Qa,Qb,Qc,Qd,Qe,Qf,Qg,Qh,reduceCtorEq,↓reduceIte,Na,Nb,Nc,Nk,Nf,Ng,Nh,Za,Zb,Zc,TT,NJ,zX];refine ad (fN m _ (by omega)) ?_;rintro r s' ⟨rfl,rfl⟩;simp only[↓ca,↓bI,bN,↓bo,↓a7,da,cX,aL,aR,aG,aJ,List.any_cons,List.any_nil,DX,Nat.reduceBEq,↓DN,Qa,Qb,Qc,Qd,Qe,Qf,Qg,Qh,reduceCtorEq,↓reduceIte,Na,Nb,Nc,Nk,Nf,Ng,Nh,Za,Zb,Zc,TT,NJ,zX];refine ad (fN pa _ hp) ?_;rintro r s' ⟨rfl,rfl⟩;simp only[↓ca,↓bI,bN,↓bo,↓a7,da,cX,aL,aR,aG,aJ,List.any_cons,List.any_nil,DX,Nat.reduceBEq,↓DN,Qa,Qb,Qc,Qd,Qe,Qf,Qg,Qh,reduceCtorEq,↓reduceIte,Na,Nb,Nc,Nk,Nf,Ng,Nh,Za,Zb,Zc,TT,NJ,zX];refine ad (va u _ hu) ?_;rintro r s' ⟨hb,lB,hle⟩;have q1:s'.aw o1=some [.v (.int .i64 k),.sl 1 m.length (m.map ai) .any,.v (.int .u64 y),.sl 1 pa.length (pa.map ai) .any,.sl 1 u.length (u.map aI) .any]:=hle.aw _ _ (by simp[AS.set,aH,zX]);have q2:s'.aw o2=some [.v (.int .i64 0),.v (.slice none 0 0),.v (.int .u64 0),.v (.slice none 0 0),.v (.slice none 0 0)]:=hle.aw _ _ (AS.ae _ _ _);have hs:s.le s':=(AS.aE (AS.aE (AS.le.refl s) xr _) h20 _).trans hle;have n1:vU r≠some o1:=(fun e=>by have:=lB o1 e;simp[AS.set,aH,zX] at this);have n2:vU r≠some o2:=(fun e=>by have:=lB o2 e;simp[AS.set] at this);have n0:∀o,vU r=some o→s.aw o=none:=fun o e=>AS.le_none (AS.aE (AS.aE (AS.le.refl s) xr _) h20 _) (lB o e);have kO:r.one=true:=by
  rcases hb with⟨_,_,rfl|rfl|rfl⟩|⟨_,_,_,rfl,_⟩<;>rfl
 have hcell:r.cells=[r]:=by
  rcases hb with⟨_,_,rfl|rfl|rfl⟩|⟨_,_,_,rfl,_⟩<;>rfl
 unfold AV.cells at hcell;unfold AV.one at kO;simp only[↓ca,↓bI,bN,↓bo,↓a7,da,cX,aL,aR,aG,aJ,List.any_cons,List.any_nil,DX,Nat.reduceBEq,↓DN,Qa,Qb,Qc,Qd,Qe,Qf,Qg,Qh,reduceCtorEq,↓reduceIte,Na,Nb,Nc,Nk,Nf,Ng,Nh,Za,Zb,Zc,TT,q1,q2,hcell,NJ,zX,aF,kO];refine hK _ _ ?_;clear hK K;refine jB (Ai @q1 (Ai @q2 (Ai @hcell (Ai @NJ (Ai @zX (Ai @aF.eq_1 @kO)))))) ?_;refine a8 ?_;refine eF (o:=o2) (off:=0) rfl (AS.ae _ _ _) (by rw[T.Be];decide) (by simp only[↓DN,Qa,Qb,Qc,Qd,Qe,Qf,Qg,Qh,reduceCtorEq,↓reduceIte,Na,Nb,Nc,Nk,Nf,Ng,Nh,Za,Zb,Zc,TT];rfl) ?_;refine⟨_,_,AV.aB.refl _,AS.le.refl _,r,rfl,?_,n0,?_⟩
 ·first |exact((((hb.mX n1).mX n1).mX n1).mX n2)|exact((hb.mX n1).mX n2)
 ·first |exact AS.aE (AS.aE (AS.aE (AS.aE hs xr _) xr _) xr _) h20 _|exact AS.aE (AS.aE hs xr _) h20 _
theorem JA(a b c d e:AV):oV 5 [a,b,c,d,e]=[a,b,c,d,e]:=rfl
theorem oM.leR{s0 s s':AS}{X:AV}{TS:List (af×AV)}(h:oM s0 s X TS)(k:s.le s'):oM s0 s' X TS:=
 ⟨⟨fun p hp=>(h.xs.buf p hp).le k,h.xs.new,h.xs.sep⟩,h.le.trans k,h.row.le k,h.O3,h.SY⟩
def nq(n:af):Prop:=n.name.length≤2^45∧n.parent.length≤2^45∧n.ig.length≤2^42
theorem Av(t:List af)(ht:t.length≤2^30)(hw:∀n∈t,nq n)(s:AS):aj prog Γ 109 [aW t] s (fun r s'=>∃TS,TS.map (·.1)=t∧oM s s' r TS):=by
 refine aa func109 rfl ntmps109 results109 (by simp) ?_
 have cx:=fun i(h:i<t.length)=>cK (t:=t) h
 have hnW:∀i(h:i<t.length),nq (nd t i):=fun i h=>by rw[rR h];exact hw _ (List.getElem_mem h)
 have dM:∀i(h:i<t.length),t.take (i+1)=t.take i++[nd t i]:=fun i h=>by rw[List.take_succ_eq_append_getElem h,rR h]
 unfold aW at *
 generalize aK af.cells t=X at *
 refine jA ?_
 refine jA ?_
 refine wK fun K hK=>?_
 refine jA ?_
 refine ah ?_
 refine aD (fun E s2=>∃(i:Nat)(x:AV)(TS:List (af×AV)),i≤t.length∧E 8=.v (.int .i64 i)∧E 7=.v (.int .i64 t.length)∧E 6=.sl 5 t.length X .any∧E 3=x∧TS.map (·.1)=t.take i∧oM s s2 x TS)
  (fun E _=>match E 8 with |.v (.int _ i)=>t.length-i.toNat|_=>0) ?_ ?_
 ·exact⟨0,_,[],Nat.zero_le _,by simp only[aH,Nc,↓reduceIte];rfl,by simp only[aH,Nc,↓reduceIte],by simp only[aH,Nc,↓reduceIte],by simp only[aH,Nc,↓reduceIte];rfl,rfl,oM.nil s⟩
 ·rintro E1 s2 ⟨i,x,TS,hi,g8,g7,g6,g3,hT,hx⟩ -
  by_cases aY:i<t.length
  ·refine jB (Ai @g8 (Ai @g7 (Ai @aq (decide_eq_true aY)))) ?_
   refine wK fun K2 aX=>?_
   refine jE ?_
   refine ab ?_
   refine aX _ _ ?_;clear aX K2
   refine wK fun K3 br=>?_
   refine ah ?_
   have iK:=cx i aY
   have hN:=hnW i aY
   have dN:=dM i aY
   generalize nd t i=N at *
   have Zi:TS.length=i:=by have:=congrArg List.length hT;simp at this;omega
   have cl:(0:Int)≤((i:Nat):Int):=by omega
   obtain⟨nk,nm,ny,jj,nu⟩:=N
   unfold af.cells at iK
   simp only at iK
   refine aU 5 (by decide) ?_
   intro K hK
   simp only[↓DM,bN,DX,Nz,↓DN,Qa,Qb,Qc,Qd,Qe,Qf,Qg,Qh,reduceCtorEq,↓reduceIte,Na,Nb,Nc,Nk,Nf,Ng,Nh,Za,Zb,Zc,TT,g6,g8,aq,aY,cl,iK,aF]
   intro o1 h1
   refine hK _ _ o1 _ (by simp only[aH,Nc,↓reduceIte]) h1 ?_
   clear hK K h1
   refine x9 rfl (by decide) ?_
   intro ops
   simp only[↓DM,bN,DX,Nz,↓DN,Qa,Qb,Qc,Qd,Qe,Qf,Qg,Qh,reduceCtorEq,↓reduceIte,Na,Nb,Nc,Nk,Nf,Ng,Nh,Za,Zb,Zc,TT,g3]
   refine ad (vb ⟨nk,nm,ny,jj,nu⟩ hN.1 hN.2.1 hN.2.2 _) ?_
   rintro r s3 ⟨xn,rfl,hb,lB,gQ⟩
   unfold gj at *
   simp only[↓DM,bN,DX,Nz,↓DN,Qa,Qb,Qc,Qd,Qe,Qf,Qg,Qh,reduceCtorEq,↓reduceIte,Na,Nb,Nc,Nk,Nf,Ng,Nh,Za,Zb,Zc,TT,g3,JA]
   have mh:s2.le s3:=gQ
   have tp:ni 5 s3 x i (aK gj TS):=by
    have:=hx.row.le gQ
    rwa [Zi] at this
   have kO:xn.one=true:=by
    rcases hb with⟨_,_,rfl|rfl|rfl⟩|⟨_,_,_,rfl,_⟩<;>rfl
   refine⟨_,fun G a w hr=>ie (n:=i) (m:=1) (cs:=aK gj TS) (ds:=gj (⟨nk,nm,ny,jj,nu⟩,xn)) (e:=54) rfl underlying22 (by simp only[↓DN,Qa,Qb,Qc,Qd,Qe,Qf,Qg,Qh,reduceCtorEq,↓reduceIte,Na,Nb,Nc,Nk,Nf,Ng,Nh,Za,Zb,Zc,TT];try rfl) T.z54 (by rw[T.Be];decide) (by rw[T.Be];rfl) (by rw[T.Be];simp only[↓DN,Qa,Qb,Qc,Qd,Qe,Qf,Qg,Qh,reduceCtorEq,↓reduceIte,Na,Nb,Nc,Nk,Nf,Ng,Nh,Za,Zb,Zc,TT,gX,aO,aH,Nc,↓reduceIte];rfl) (by decide) (by rw[T.U8];omega) (by omega) (by simp only[gj,List.all_cons,List.all_nil,kO];rfl) (by rw[T.Be];exact tp) hr.eval hr.st,?_⟩
   rw[T.Be]
   rintro r s4 ⟨ob,cap,rest,rfl,gu,Db,uF,oi,rfl⟩
   have xcK:s3.aw ob=none∨∃rF,x=.gR ob 0 5 TS.length rF:=by
    rw[Zi];exact oi
   have Ro:=(oM.leR hx gQ).push (p:=(⟨nk,nm,ny,jj,nu⟩,xn)) (ob:=ob) (cap:=cap) (rest:=rest) hb
    (fun o ho=>⟨AS.le_none hx.le (lB o ho),(fun q hq e=>by obtain⟨ds,hd⟩:=(hx.xs.buf q hq).some e;rw[lB o ho] at hd;cases hd),(fun e=>by obtain⟨ds,hd⟩:=hx.row.some e;rw[lB o ho] at hd;cases hd)⟩)
    xcK (by rw[Zi];exact gu) Db (by rw[Zi];exact uF)
   rw[Zi,List.append_assoc] at Ro
   refine jV @g3 br ?_;clear br K3
   refine jD (Ai @g8 (bp i (by omega))) ?_
   refine⟨⟨i+1,.gR ob 0 5 (i+1) cap,TS++[(⟨nk,nm,ny,jj,nu⟩,xn)],by omega,by simp only[aH,Nc,↓reduceIte],by simp only[aH,g7,Nc,↓reduceIte],by simp only[aH,g6,Nc,↓reduceIte],by simp only[aH,Nc,↓reduceIte],by rw[List.map_append,hT,dN];rfl,Ro⟩,?_⟩
   simp only[g8,aH,↓reduceIte]
   omega
  ·refine jB (Ai @g8 (Ai @g7 (Ai @aq (decide_eq_false aY)))) ?_
   refine wK fun K2 aX=>?_
   refine jF ?_
   refine aC ?_
   simp only[az,ar,if_true]
   refine hK _ _ ?_;clear hK aX K2 K
   obtain rfl:i=t.length:=by omega
   refine jB @g3 ?_
   refine jI ?_
   exact⟨_,_,AV.aB.refl _,AS.le.refl _,TS,by rw[hT,List.take_length],hx⟩
end Go.Proofs.YtbiefppedlodiaaGreatDoor
namespace Go.AM
open Go
def Zj(L:Nat)(t:List af):Prop:=Fit L∧t.length=2*L-1∧
    (∀i,i<2*L-1→(nd t i).right∧((nd t i).kind=0∨((nd t i).kind=1↔i%2=0))∧∀u∈(nd t i).ig,(lo i:Int)≤u∧u≤(hi i:Int)∧0≤u∧u<(L:Int)∧(nd t (2*u.toNat)).kind=1)∧
    (∀a b,a<b→b<L→(nd t (2*a)).kind=1→(nd t (2*b)).kind=1→(nd t (2*b)).name≠(nd t (2*a)).name)
theorem bd.xbY{t:List af}(h:bd t):Zj (aM t) t∧(aM t=1∨∃j,aM t/2≤j∧j<aM t∧(Go.AM.nd t (2*j)).kind=1):=by
  obtain⟨h1,h2⟩:=h.len;obtain⟨k1,k2,k3⟩:=(yz h2 h1).1 h;exact⟨⟨h2,h1,k1,k2⟩,k3⟩
theorem yL{t:List af}{name:List UInt8}(h:¬0≤og t name 0){L:Nat}(hL:Fit L)(hlen:t.length=2*L-1){j:Nat}(hj:j<L)(hk:(nd t (2*j)).kind=1):(nd t (2*j)).name≠name:=by
  intro e;have hl:=GG hL hlen;have hb:=hL.le;have h1:=uT (fun j=>decide (eg t j∧(nd t (2*j)).name=name)) (gJ t-0) 0;have h2:decide (0≤og t name 0)=true:=h1.2 ⟨j,Nat.zero_le _,by unfold gJ;omega,decide_eq_true ⟨(lW hl _).2 ⟨hj,hk⟩,e⟩⟩;exact h (of_decide_eq_true h2)
def Zk(key:Nat):Prop:=2≤(key:Int)∧(key:Int)≤2305843009213693949
instance(key:Nat):Decidable (Zk key):=by unfold Zk;infer_instance
open Go Go.RowKit
variable{P:Program}{Γ:Nat→List AV}{s:AS}
theorem G8{α:Type}{c:α→List AV}{l:List α}{u:Nat}(h:u<l.length):aK c l=aK c (l.take u)++c l[u]++aK c (l.drop (u+1)):=by
  have e:l=l.take u++l[u]::l.drop (u+1):=(by rw[List.getElem_cons_drop,List.take_append_drop]);have e2:aK c l=aK c (l.take u++l[u]::l.drop (u+1)):=(by rw[←e]);rw[e2];simp only[aK,List.map_append,List.map_cons,List.flatten_append,List.flatten_cons,List.append_assoc]
theorem tX{α:Type}{c:α→List AV}{k:Nat}(hk:∀a,(c a).length=k){l:List α}{u:Nat}(h:u<l.length)(a:α)(rest:List AV):bn (aK c l++rest) (u*k) (c a)=aK c (l.set u a)++rest:=by
  have hl:(aK c (l.take u)).length=u*k:=(by rw[cL hk,List.length_take];congr 1;omega);have e2:aK c (l.set u a)=aK c (l.take u)++c a++aK c (l.drop (u+1)):=by
    rw[List.set_eq_take_append_cons_drop,if_pos h];simp[aK]
  rw[e2,G8 h];rw[Mac.gB _ _ _ (by simp[hk,hl])];have a1:(aK c (l.take u)++c l[u]++aK c (l.drop (u+1))++rest).take (u*k)=aK c (l.take u):=by
    rw[List.append_assoc,List.append_assoc,←hl,List.take_left]
  have a2:(aK c (l.take u)++c l[u]++aK c (l.drop (u+1))++rest).drop (u*k+(c a).length)=aK c (l.drop (u+1))++rest:=by
    have e3:u*k+(c a).length=(aK c (l.take u)++c l[u]).length:=(by rw[List.length_append,hl,hk,hk]);rw[e3,List.append_assoc _ _ rest,List.drop_left]
  rw[a1,a2];simp
end Go.AM
namespace Go.Proofs.YtbiefppedlodiaaGreatDoor
open Go Go.AM Go.Proofs Tryz
variable{Γ:Nat→List AV}
instance(t:List af):Decidable (dE t):=by unfold dE;infer_instance
def uQ(n:af):Prop:=n.name.length≤40∧n.parent.length≤60∧n.ig.length≤40
def Ms(t:List af):Prop:=t.length≤63∧∀n∈t,uQ n
instance(n:af):Decidable (uQ n):=by unfold uQ;infer_instance
instance(t:List af):Decidable (Ms t):=by unfold Ms;infer_instance
end Go.Proofs.YtbiefppedlodiaaGreatDoor
namespace Go.AM
open Go
theorem cO.tree{gw:List AV}(h:cO (.slice 5 (.struct (.cons B2 (.cons Dc (.cons (.int .u64) (.cons Dc (.cons (.slice 1 B2) .nil))))))) gw):∃t:List af,gw=[aW t]∧∀n∈t,n.key<2^64:=by
  obtain⟨els,rfl,_,bT⟩:=cO.rows h;have key:∀els:List (List AV),(∀el∈els,el.length=5∧cO (.struct (.cons B2 (.cons Dc (.cons (.int .u64) (.cons Dc (.cons (.slice 1 B2) .nil)))))) el)→∃t:List af,els=t.map af.cells∧∀n∈t,n.key<2^64:=by
    intro els;induction els with
    |nil=>intro _;exact⟨[],rfl,fun n hn=>by cases hn⟩
    |cons e els ih=>
      intro h;obtain⟨t,rfl,h2⟩:=ih (fun el vq=>h el (by simp[vq]));obtain⟨_,h1⟩:=h e (by simp);obtain⟨N,rfl,hN⟩:=cO.node h1;refine⟨N::t,rfl,fun n hn=>?_⟩;rcases List.mem_cons.1 hn with rfl|hn
      · exact hN
      · exact h2 n hn
  obtain⟨t,rfl,h2⟩:=key els bT;refine⟨t,?_,h2⟩;unfold aW aK;rw[List.length_map]
def PB(k:Nat)(l:List UInt8):List UInt8:=be k l.length++l
def lT.body(p:lT):List UInt8:=if p.kind=1 then PB 1 p.name++(be 8 p.key++be 8 p.init) else if p.kind=2 then be 1 p.leaf.toNat++be 8 p.key else be 1 p.leaf.toNat
def lT.text(p:lT):List UInt8:=be 1 p.kind.toNat++p.body
def dP.Zl(x:dP):List UInt8:=be 8 x.ji++PB 2 x.text
def Mt{α:Type}(f:α→List UInt8)(l:List α):List UInt8:=(l.map f).flatten
def cb.text(x:cb):List UInt8:=be 8 x.key++(be 1 x.dw.length++Mt dP.Zl x.dw)
def cS.text(x:cS):List UInt8:=be 8 x.key++(PB 1 x.parent++(be 1 x.steps.length++Mt cb.text x.steps))
def cM.tail(c:cM):List UInt8:=if c.xc then be 1 1++c.path.text else be 1 0
def cM.content(c:cM):List UInt8:=
  be 1 1++(PB 1 c.group++(be 8 c.ij.toNat++(be 1 c.Cx.toNat++(be 1 c.props.length++(Mt lT.text c.props++c.tail)))))
def cM.text(c:cM):List UInt8:=c.content++(PB 1 c.Cy++PB 1 c.GD)
def dP.fits(p:dP):Prop:=p.text.length≤100
def cb.fits(p:cb):Prop:=(∀x∈p.dw,x.fits)∧True∧p.dw.length≤32
def cS.fits(p:cS):Prop:=(∀x∈p.steps,x.fits)∧True∧p.parent.length≤200∧p.steps.length≤20
end Go.AM
namespace Go.AM
namespace Kdf
variable(aQ info:List UInt8)
def nE:Nat→List UInt8
  |0=>[]
  |i+1=>Mac.tag aQ (nE i++info++[UInt8.ofNat (i+1)])
def row:Nat→List UInt8
  |0=>[]
  |i+1=>row i++nE aQ info (i+1)
theorem tY(i:Nat):(nE aQ info (i+1)).length=32:=Mac.mF _ _
theorem cL:∀i:Nat,(row aQ info i).length=32*i
  |0=>rfl
  |i+1=>by rw[row,List.length_append,cL i,tY];omega
def rounds(n:Nat):Nat:=(n+31)/32
def expand(n:Nat):List UInt8:=(row aQ info (rounds n)).take n
theorem vd(n:Nat):n≤32*rounds n:=by unfold rounds;omega
theorem gI(n:Nat):(expand aQ info n).length=n:=by
  rw[expand,List.length_take,cL];have:=vd n;omega
theorem due(n i:Nat):32*i<n↔i<rounds n:=by unfold rounds;omega
def ok(n:Int):Bool:=decide (0≤n)&&decide (n≤8160)
def get(n:Int):List UInt8:=if ok n=true then expand aQ info n.toNat else[]
end Kdf
namespace Kdf
def Dh:List UInt8:=[109,108,115,32]
def fits(l c:List UInt8)(n:Int):Bool:=decide (l.length≤251)&&decide (c.length≤65535)&&decide (0≤n)&&decide (n≤8160)
def text(l c:List UInt8)(n:Nat):List UInt8:=be 2 n++(be 1 (Dh++l).length++(Dh++l))++(be 2 c.length++c)
def label(aQ l c:List UInt8)(n:Int):List UInt8:=if fits l c n=true then expand aQ (text l c n.toNat) n.toNat else[]
def derive(aQ l:List UInt8):List UInt8:=label aQ (l.take 251) [] 32
def Uq(l c:List UInt8)(n:Int):List UInt8×Bool:=dx 2 c (dx 1 (Dh++l) (bm 2 n ([],false)))
theorem PC{k n:Nat}{st:List UInt8×Bool}(h:st.2=true):(ed k n st).2=true:=by rw[ed,if_pos h];exact h
theorem JB{k:Nat}{n:Int}{st:List UInt8×Bool}(h:st.2=true):(bm k n st).2=true:=by
  unfold bm;split
  · exact PC h
  · rfl
theorem Ie{m:List UInt8}{st:List UInt8×Bool}(h:st.2=true):(ee m st).2=true:=by rw[ee,if_pos h];exact h
theorem za{k:Nat}{m:List UInt8}{st:List UInt8×Bool}(h:st.2=true):(dx k m st).2=true:=Ie (JB h)
theorem zb{k:Nat}{n:Int}{st:List UInt8×Bool}(h:¬(0≤n∧n<2^(8*k))):(bm k n st).2=true:=by rw[bm,if_neg h]
theorem BB{k:Nat}{m:List UInt8}{st:List UInt8×Bool}(h:¬(m.length:Int)<2^(8*k)):(dx k m st).2=true:=Ie (zb fun h'=>h h'.2)
theorem Mu(l c:List UInt8)(n:Int)(h0:0≤n)(h1:n≤65535)(hl:l.length≤251)(hc:c.length≤65535):Uq l c n=(text l c n.toNat,false):=by
  obtain⟨m,rfl⟩:∃m:Nat,n=(m:Int):=⟨n.toNat,by omega⟩;have hm:(Dh++l).length=4+l.length:=(by simp[Dh];omega);unfold Uq;rw[sS (by omega),vA (by rw[hm];omega),vA (by omega)];simp[text]
theorem PE(l c:List UInt8)(n:Int)(h:¬(0≤n∧n≤65535∧l.length≤251∧c.length≤65535)):(Uq l c n).2=true:=by
  have hm:(Dh++l).length=4+l.length:=(by simp[Dh];omega);unfold Uq;by_cases h0:0≤n∧n<2^(8*2)
  · by_cases h1:((Dh++l).length:Int)<2^(8*1)
    · refine BB fun h2=>h ?_;simp only[Nat.reduceMul] at h0 h1 h2;refine⟨h0.1,by omega,by omega,by omega⟩
    · exact za (BB h1)
  · exact za (za (zb h0))
theorem jt(k:Nat)(m:List UInt8)(st:List UInt8×Bool):(dx k m st).1.length≤st.1.length+k+m.length:=by
  have:=eE k (m.length:Int) st;unfold dx ee;split
  · omega
  · simp only[List.length_append];omega
end Kdf
namespace Sch
def Tf:List UInt8:=[101,112,111,99,104]
def Mv:List UInt8:=[119,101,108,99,111,109,101]
def JC:List UInt8:=[101,120,112,111,114,116,101,114]
def Mw:List UInt8:=[99,111,110,102,105,114,109]
def PF:List UInt8:=[109,101,109,98,101,114,115,104,105,112]
def Zm:List UInt8:=[105,110,105,116]
def main(j:List UInt8):List UInt8:=Mac.tag j (List.replicate 32 0)
def ij(j c:List UInt8):List UInt8:=Kdf.label (main j) Tf c 32
def of(j c:List UInt8):List (List UInt8):=[j,Kdf.derive (main j) Mv,Kdf.derive (ij j c) JC,Kdf.derive (ij j c) Mw,Kdf.derive (ij j c) PF,Kdf.derive (ij j c) Zm]
end Sch
end Go.AM
