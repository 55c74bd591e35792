/- Contracts of functions, each walked once; each theorem states its conditions. -/
import Derived.Test.YtbiefppedlodiaaGreatDoorAMp6
import Derived.Test.YtbiefppedlodiaaGreatDoorW1
import Derived.Test.YtbiefppedlodiaaGreatDoorW5
import Derived.Test.YtbiefppedlodiaaGreatDoorW2
import Derived.Test.YtbiefppedlodiaaGreatDoorW3
import Derived.Test.YtbiefppedlodiaaGreatDoorAMp7
import Derived.Test.YtbiefppedlodiaaGreatDoorW4
set_option linter.unusedSimpArgs false
set_option linter.unusedVariables false
open Nat renaming reduceLT → Na, reduceLeDiff → Nb, reduceEqDiff → Nc, reduceAdd → Nk, reduceMul → Nf, reducePow → Ng, reduceSub → Nh, reduceBEq → Nz
open Int renaming reduceLT → Za, reduceLE → Zb, reduceToNat → Zc
open And renaming intro → Ai
open Go.AM renaming ashift → Qa, aconv → Qb, aindexAddr → Qc, aindex → Qd, aslice → Qe, abuiltin → Qf, awp_reg_seq → wS, awp_reg_end → wE, awp_seq_k → wK, awp_cond_k → wC
open Go.AM.AV renaming cells → Qg, one → Qh
set_option maxRecDepth 100000
set_option maxHeartbeats 8000000
namespace Go.Proofs.YtbiefppedlodiaaGreatDoor
open Go Go.AM Go.Proofs Tryz
variable {Γ : Nat→List AV}
theorem xb (s0 s : AS) (p : Nat) (st : List UInt8 × Bool) (x : bE) (hw : x.wf) (hx : x.fits) (hl : st.1.length + 100000≤2 ^ 45) (h : eR s0 s p st) :
  ah prog Γ 32 [.ptr p 0,.agg x.cells] s (fun r s'=>r = .eJ []∧eR s0 s' p (cx x.text st)):=by
 refine ab func32 rfl ntmps32 results32 (by simp) ?_;obtain ⟨key,pa,ps⟩:=x;obtain ⟨w1,w2,w3⟩:=hw;obtain ⟨x1,x2,x3,x4⟩:=hx;simp only at w1 w2 w3 x1 x2 x3 x4;unfold bE.cells;have OW : bE.text ⟨key,pa,ps⟩ = be 8 key ++ (Cj 1 pa ++ (be 1 ps.length ++ cA aM.text ps)):=rfl;rw [OW];clear OW;have oW : ∀ i,(cA aM.text (ps.take i)).length≤71000:=by
  intro i;have h1:=jl (f:=aM.text) (n:=3529) (l:=ps.take i) fun y hy=>aM.gI (x1 y (List.mem_of_mem_take hy));have h2 : (ps.take i).length≤20:=(by rw [List.length_take]; omega);have h3 : (ps.take i).length * 3529≤20 * 3529:=Nat.mul_le_mul_right _ h2;omega
 have oc:=fun i (h : i < ps.length)=>fN (c:=aM.cells) (k:=2) (fun _=>rfl) h;generalize hXX : aK aM.cells ps = XX at *
 refine aU 3 (by simp [bU]) ?_;intro K hK;refine jM ?_;intro o ho;refine hK _ _ o _ rfl ho ?_;clear hK K ho;refine jQ fun K hK=>?_;refine ad (eX s0 s p st key w1 (by omega) h) ?_;rintro r s1 ⟨rfl,h1⟩;rw [gV] at h1;have l1:=eT (be 8 key) st;rw [b8] at l1;refine jR hK ?_;clear hK K;refine jQ fun K hK=>?_;refine ad (eH s0 s1 p _ _ pa (yn.any pa) (by omega) h1) ?_;rintro r s2 ⟨rfl,h2⟩;rw [FT (by omega),cv] at h2;have l2:=eT (be 8 key ++ Cj 1 pa) st;rw [List.length_append,b8,ua] at l2;refine jR hK ?_;clear hK K;refine jQ fun K hK=>?_;refine ad (eh s0 s2 p _ (ps.length : Int) (by omega) (by omega) h2) ?_;rintro r s3 ⟨rfl,h3⟩;rw [eg (by omega),cv] at h3;obtain ⟨QM,NG⟩ : ∃ q,q = cx (be 8 key ++ Cj 1 pa ++ be 1 ps.length) st:=⟨_,rfl⟩;have l3:=eT (be 8 key ++ Cj 1 pa ++ be 1 ps.length) st;rw [List.length_append,List.length_append,b8,b8,ua,← NG] at l3;rw [← NG] at h3;clear h1 h2 l1 l2;refine jR hK ?_;clear hK K;refine jA ?_;refine al ?_;refine aE (fun E s1=>∃ i : Nat,i≤ps.length∧E 24 = .v (.int .i64 i)∧E 23 = .v (.int .i64 ps.length)∧E 22 = .sl 2 ps.length XX .any∧E 0 = .ptr p 0∧eR s0 s1 p (cx (cA aM.text (ps.take i)) QM))
  (fun E _=>match E 24 with | .v (.int _ i)=>ps.length - i.toNat | _=>0) ?_ ?_
 ·exact ⟨0,Nat.zero_le _,rfl,rfl,rfl,by simp only [aF,br,Nc,↓reduceIte,List.getD_cons_zero],by simpa [cA,yK] using h3⟩
 ·clear h3 h;rintro E1 s1 ⟨i,hi,g24,g23,g22,g0,h⟩ -
  by_cases bc : i < ps.length
  ·refine jB (Ai @g24 (Ai @g23 (Ai @ax (decide_eq_true bc)))) ?_;refine wK fun K3 bC=>?_;refine jE ?_;refine ag ?_;refine bC _ _ ?_;clear bC K3;refine wK fun K3 bC=>?_;refine al ?_;have dI:=oc i bc;have dr : (0 : Int)≤(i : Int):=(by omega);have VH:=ot aM.text bc;have xdM:=oW i;have lst:=eT (cA aM.text (ps.take i)) QM;obtain ⟨y,hy⟩ : ∃ y,y = ps[i]:=⟨_,rfl⟩;rw [← hy] at dI VH;have hym : y ∈ ps:=(by rw [hy]; exact List.getElem_mem bc);have ZB:=w2 y hym;have sM:=x1 y hym;clear hy;obtain ⟨f,t⟩:=y;obtain ⟨yw1,yw2,yw3⟩:=ZB;obtain ⟨Uq,yr2,yr3⟩:=sM;simp only at yw1 yw2 yw3 Uq yr2 yr3;rw [show aM.text ⟨f,t⟩ = be 8 f ++ (be 1 t.length ++ cA aY.fq t) from rfl] at VH;unfold aM.cells at dI;have Ur : ∀ i,(cA aY.fq (t.take i)).length≤3520:=by
    intro i;have h1:=jl (f:=aY.fq) (n:=110) (l:=t.take i) fun y hy=>aY.gI (Uq y (List.mem_of_mem_take hy));have h2 : (t.take i).length≤32:=(by rw [List.length_take]; omega);have h3 : (t.take i).length * 110≤32 * 110:=Nat.mul_le_mul_right _ h2;omega
   have y6:=fun i (h : i < t.length)=>fN (c:=aY.cells) (k:=2) (fun _=>rfl) h;generalize aK aY.cells t = T at *
   refine aU 5 (by simp [bU]) ?_;intro K2 aW;refine jN (Ai @g24 (Ai @g22 (Ai @ax (Ai @bc (Ai @dr @dI))))) ?_;intro o ho;refine aW _ _ o _ rfl ho ?_;clear aW K2 ho;refine jS @g0 fun K hK=>?_;refine ad (eX s0 s1 p _ f yw1 (by omega) h) ?_;rintro r s4 ⟨rfl,h4⟩;rw [gV,cv] at h4;have l4:=eT (cA aM.text (ps.take i) ++ be 8 f) QM;rw [List.length_append,b8] at l4;refine jR hK ?_;clear hK K;refine jS @g0 fun K hK=>?_;refine ad (eh s0 s4 p _ (t.length : Int) (by omega) (by omega) h4) ?_;rintro r s5 ⟨rfl,h5⟩;rw [eg (by omega),cv] at h5;obtain ⟨st5,Us⟩ : ∃ q,q = cx (cA aM.text (ps.take i) ++ be 8 f ++ be 1 t.length) QM:=⟨_,rfl⟩;have l5:=eT (cA aM.text (ps.take i) ++ be 8 f ++ be 1 t.length) QM;rw [List.length_append,List.length_append,b8,b8,← Us] at l5;rw [← Us] at h5;refine jR hK ?_;clear hK K;refine jA ?_;refine al ?_;refine aE (fun E s1=>∃ k : Nat,k≤t.length∧E 40 = .v (.int .i64 k)∧E 39 = .v (.int .i64 t.length)∧E 38 = .sl 2 t.length T .any∧E 24 = .v (.int .i64 i)∧E 23 = .v (.int .i64 ps.length)∧E 22 = .sl 2 ps.length XX .any∧E 0 = .ptr p 0∧eR s0 s1 p (cx (cA aY.fq (t.take k)) st5))
    (fun E _=>match E 40 with | .v (.int _ i)=>t.length - i.toNat | _=>0) ?_ ?_
   ·exact ⟨0,Nat.zero_le _,rfl,rfl,rfl,g24,g23,g22,g0,by simpa [cA,yK] using h5⟩
   ·have G24:=g24;clear h5 h4 h dI g24 g23 g22 g0;rintro E2 s6 ⟨k,hk,Ut,g39,g38,g24,g23,g22,g0,h⟩ -
    by_cases oT : k < t.length
    ·refine jB (Ai @Ut (Ai @g39 (Ai @ax (decide_eq_true oT)))) ?_;refine wK fun K4 ei=>?_;refine jE ?_;refine ag ?_;refine ei _ _ ?_;clear ei K4;refine wK fun K4 ei=>?_;refine al ?_;have dI:=y6 k oT;have dr : (0 : Int)≤(k : Int):=(by omega);have KJ:=ot aY.fq oT;have xdQ:=Ur k;have xje:=eT (cA aY.fq (t.take k)) st5;obtain ⟨z,hz⟩ : ∃ z,z = t[k]:=⟨_,rfl⟩;rw [← hz] at dI KJ;have hzm : z ∈ t:=(by rw [hz]; exact List.getElem_mem oT);have Uu:=yw2 z hzm;have hzr:=Uq z hzm;clear hz;obtain ⟨fz,tz⟩:=z;have zr2 : tz.length≤100:=hzr;have Uu : fz < 2 ^ 64:=Uu;rw [show aY.fq ⟨fz,tz⟩ = be 8 fz ++ Cj 2 tz from rfl] at KJ;unfold aY.cells at dI;refine aU 7 (by simp [bU]) ?_;intro K2 aW;refine jN (Ai @Ut (Ai @g38 (Ai @ax (Ai @oT (Ai @dr @dI))))) ?_;intro o ho;refine aW _ _ o _ rfl ho ?_;clear aW K2 ho;refine jU @g0 fun K hK=>?_;refine ad (DR s0 s6 p _ fz tz Uu (by omega) h) ?_;rintro r s7 ⟨rfl,h7⟩;rw [FT (by omega),gV,cv,cv,← KJ] at h7;refine jR hK ?_;clear hK K;simp only [aw,az,if_true,if_false];refine ei _ _ ?_;clear ei K4;refine jD (Ai @Ut (eE k (by omega))) ?_;refine ⟨⟨k + 1,by omega,rfl,g39,g38,g24,g23,g22,g0,h7⟩,?_⟩;simp only [Ut,aF,↓reduceIte];omega
    ·refine jB (Ai @Ut (Ai @g39 (Ai @ax (decide_eq_false oT)))) ?_;refine wK fun K4 ei=>?_;refine jF ?_;refine aC ?_;simp only [az,aw,if_true,if_false];rw [List.take_of_length_le (by omega),Us,cv,List.append_assoc,List.append_assoc,← VH] at h;refine bC _ _ ?_;clear bC ei K4 K3;refine jD (Ai @g24 (eE i (by omega))) ?_;refine ⟨⟨i + 1,by omega,rfl,g23,g22,g0,h⟩,?_⟩;simp only [G24,aF,↓reduceIte];omega
  ·refine jB (Ai @g24 (Ai @g23 (Ai @ax (decide_eq_false bc)))) ?_;refine wK fun K3 bC=>?_;refine jF ?_;refine aC ?_;simp only [az,aw,if_true];simp only [cn,bz,bD,dy,List.toList_toArray,↓a8]; try simp only [UP,DF,Nc,↓reduceIte,DT]
   refine jW ⟨rfl,?_⟩;rw [List.take_of_length_le (by omega),NG,cv] at h;simpa using h
def cQ.octets (c : cQ) : List UInt8:=if c.right then c.text else []
def NH : List UInt8:=List.replicate 32 0
def c0 : cQ:=⟨[103],0,0,[],false,⟨0,[],[]⟩,NH,NH⟩
theorem yP {a b : Nat} (h : a≠b) : ((a : Int) != (b : Int)) = true:=by simp only [bne_iff_ne,ne_eq]; omega
theorem pR {a b : Nat} (h : a = b) : ((a : Int) != (b : Int)) = false:=by subst h; simp
theorem Hu {a b : List UInt8} (h : a≠b) : (a != b) = true∧(!a == b) = true:=⟨by simpa using h,by simpa using h⟩
theorem Db {a b : List UInt8} (h : a = b) : (a != b) = false∧(!a == b) = false:=by subst h; simp
theorem Jn {α : Type} {a b : List α} {i : Nat} (ha : i < a.length) (hb : i < b.length) (h : a.take i = b.take i) (he : a[i] = b[i]) : a.take (i + 1) = b.take (i + 1):=by
 rw [List.take_succ_eq_append_getElem ha,List.take_succ_eq_append_getElem hb,h,he]
theorem ue {α : Type} {a b : List α} {i : Nat} (hl : a.length = b.length) (ha : ¬ i < a.length) (h : a.take i = b.take i) : a = b:=by
 rwa [List.take_of_length_le (by omega),List.take_of_length_le (by omega)] at h
theorem Dm (a b : bE) (ha : a.wf) (s : AS) : ah prog Γ 12 [.agg a.cells,.agg b.cells] s (fun r s'=>r = .v (.bool (decide (a = b)))∧s' = s):=by
 refine ab func12 rfl ntmps12 results12 (by simp) ?_;obtain ⟨k1,p1,l1⟩:=a;obtain ⟨k2,p2,l2⟩:=b;obtain ⟨_,hw,hl⟩:=ha;simp only at hw hl;unfold maxLen at hl;unfold bE.cells;simp only;have qh:=fun i (h : i < l1.length)=>fN (c:=aM.cells) (k:=2) (fun _=>rfl) h;have y6:=fun i (h : i < l2.length)=>fN (c:=aM.cells) (k:=2) (fun _=>rfl) h;generalize aK aM.cells l1 = X1 at *
 generalize aK aM.cells l2 = X2 at *
 refine fX 2 3 (by decide) (by decide) (by decide) ?_;intro K hK;refine jM ?_;intro o1 h1 o2 h2;refine hK _ _ o1 o2 _ _ rfl rfl h1 (by rw [AS.hM]; exact h2) ?_;clear hK K h1 h2;refine wK fun K hK=>?_;by_cases hh : k1 = k2∧p1 = p2∧l1.length = l2.length
 ·obtain ⟨rfl,rfl,hll⟩:=hh;refine jB (Ai (pR (show k1 = k1 from rfl)) (Ai (Db (show p1 = p1 from rfl)) (pR hll))) ?_;refine jF ?_;refine ag ?_;refine hK _ _ ?_;clear hK K;refine wK fun K hK=>?_;refine jA ?_;refine al ?_;refine aE (fun E s1=>∃ i : Nat,i≤l1.length∧E 5 = .v (.int .i64 i)∧E 2 = .dq [.v (.int .u64 k1),.sl 1 p1.length (p1.map ai) .any,.sl 2 l1.length X1 .any]∧E 3 = .dq [.v (.int .u64 k1),.sl 1 p1.length (p1.map ai) .any,.sl 2 l2.length X2 .any]∧l1.take i = l2.take i∧s1 = s)
   (fun E _=>match E 5 with | .v (.int _ i)=>l1.length - i.toNat | _=>0) ?_ ?_
  ·exact ⟨0,Nat.zero_le _,rfl,rfl,rfl,by simp,rfl⟩
  ·rintro E1 s1 ⟨i,hi,g5,g2,g3,cu,rfl⟩ -
   refine wK fun K2 aW=>?_;by_cases bc : i < l1.length
   ·refine jB (Ai @g5 (Ai @g2 (Ai @ax (decide_eq_true bc)))) ?_;refine jE ?_;refine ag ?_;refine aW _ _ ?_;clear aW K2;refine wK fun K3 bC=>?_;refine al ?_;have im : i < l2.length:=(by omega);have Uv:=qh i bc;have xa:=y6 i im;have dr : (0 : Int)≤(i : Int):=(by omega);have H3 : l1[i] = l2[i]→l1.take (i + 1) = l2.take (i + 1):=Jn bc im cu;have vE : l1[i]≠l2[i]→decide ((⟨k1,p1,l1⟩ : bE) = ⟨k1,p1,l2⟩) = false:=fun h=>decide_eq_false fun q=>h (by simp only [bE.mk.injEq,true_and] at q; subst q; rfl);have hsw:=hw l1[i] (List.getElem_mem bc);generalize l1[i] = y1 at *
    generalize l2[i] = y2 at *
    obtain ⟨f1,t1⟩:=y1;obtain ⟨f2,t2⟩:=y2;obtain ⟨_,_,lT⟩:=hsw;simp only at lT;unfold maxLen at lT;unfold aM.cells at Uv xa;simp only at Uv xa;have xdR:=fun i (h : i < t1.length)=>fN (c:=aY.cells) (k:=2) (fun _=>rfl) h;have xdS:=fun i (h : i < t2.length)=>fN (c:=aY.cells) (k:=2) (fun _=>rfl) h;generalize aK aY.cells t1 = T1 at *
    generalize aK aY.cells t2 = T2 at *
    refine C0 T.mixed 6 7 [10,11,12,13] [] [] [10,11] (by kernel_rfl) (by decide) (by decide) (by decide) ?_;intro K hK;simp only [↓xw,↓tq,↓qz,eF,dP,nT,mn,mq,bL,DX,Nat.reduceBEq,List.toList_toArray,List.map_cons,List.map_nil,aI,↓DN,Qa,Qb,Qc,Qd,Qe,Qf,Qg,Qh,reduceCtorEq,↓reduceIte,Na,Nb,Nc,Nk,Nf,Ng,Nh,Za,Zb,Zc,TT,g5,g2,g3,ax,bc,im,dr,Uv,xa];intro o1 vK o2 iR;have dp : o1≠o2:=(by rintro rfl; simp at iR);have oQ:=dp.symm;simp only [dp,oQ,if_true,if_false,↓reduceIte,List.set_cons_zero,List.set_cons_succ,List.length_cons,List.length_nil,Nat.reduceAdd,Nat.le_refl,true_and];rw [EY dp];refine hK _ _ o1 o2 _ _ rfl rfl vK (by rw [AS.ae _ oQ]; simpa [oQ] using iR) ?_;clear hK K vK iR dp oQ;refine wK fun K hK=>?_;by_cases hh2 : f1 = f2∧t1.length = t2.length
    ·obtain ⟨rfl,Ug⟩:=hh2;refine jB (Ai (pR (show f1 = f1 from rfl)) (pR Ug)) ?_;refine jF ?_;refine ag ?_;refine hK _ _ ?_;clear hK K;refine jA ?_;refine al ?_;refine aE (fun E s2=>∃ j : Nat,j≤t1.length∧E 8 = .v (.int .i64 j)∧E 6 = .dq [.v (.int .u64 f1),.sl 2 t1.length T1 .any]∧E 7 = .dq [.v (.int .u64 f1),.sl 2 t2.length T2 .any]∧t1.take j = t2.take j∧E 5 = .v (.int .i64 i)∧E 2 = .dq [.v (.int .u64 k1),.sl 1 p1.length (p1.map ai) .any,.sl 2 l1.length X1 .any]∧E 3 = .dq [.v (.int .u64 k1),.sl 1 p1.length (p1.map ai) .any,.sl 2 l2.length X2 .any]∧s2 = s1)
      (fun E _=>match E 8 with | .v (.int _ i)=>t1.length - i.toNat | _=>0) ?_ ?_
     ·exact ⟨0,Nat.zero_le _,rfl,rfl,rfl,by simp,g5,g2,g3,rfl⟩
     ·have G5:=g5;clear g5 g2 g3;rintro E2 s2 ⟨j,hj,g8,g6,g7,Sm,g5,g2,g3,rfl⟩ -
      refine wK fun K2 aW=>?_;by_cases gQ : j < t1.length
      ·refine jB (Ai @g8 (Ai @g6 (Ai @ax (decide_eq_true gQ)))) ?_;refine jE ?_;refine ag ?_;refine aW _ _ ?_;clear aW K2;refine wK fun K4 ei=>?_;refine al ?_;have hj2 : j < t2.length:=(by omega);have NJ:=xdR j gQ;have NK:=xdS j hj2;have ZL : (0 : Int)≤(j : Int):=(by omega);have xan : t1[j] = t2[j]→t1.take (j + 1) = t2.take (j + 1):=Jn gQ hj2 Sm;have xao : t1[j]≠t2[j]→decide ((⟨k1,p1,l1⟩ : bE) = ⟨k1,p1,l2⟩) = false:=fun h=>vE fun q=>h (by simp only [aM.mk.injEq,true_and] at q; subst q; rfl);generalize t1[j] = z1 at *
       generalize t2[j] = z2 at *
       obtain ⟨u1,v1⟩:=z1;obtain ⟨u2,v2⟩:=z2;unfold aY.cells at NJ NK;simp only at NJ NK;by_cases hu : u1 = u2
       ·subst hu;by_cases hv : v1 = v2
        ·subst hv;refine bB T.mixed [] (by kernel_rfl) ?_;intro K hK;simp only [↓bI,↓bp,bL,↓xw,↓tq,↓qz,eF,dP,nT,mn,mq,bL,DX,Nat.reduceBEq,List.toList_toArray,List.map_cons,List.map_nil,aI,DX,Nat.reduceBEq,↓DN,Qa,Qb,Qc,Qd,Qe,Qf,Qg,Qh,reduceCtorEq,↓reduceIte,Na,Nb,Nc,Nk,Nf,Ng,Nh,Za,Zb,Zc,TT,g8,g6,g7,ax,gQ,hj2,ZL,NJ,NK,pR (show u1 = u1 from rfl),Db (show v1 = v1 from rfl)];refine hK _ _ ?_;clear hK K;refine jF ?_;refine ag ?_;simp only [aw,az,if_true,if_false];refine ei _ _ ?_;clear ei K4;refine jD (Ai @g8 (bt j (by omega))) ?_;refine ⟨⟨j + 1,by omega,rfl,g6,g7,xan rfl,g5,g2,g3,rfl⟩,?_⟩;simp only [g8,aF,↓reduceIte];omega
        ·refine bB T.mixed [] (by kernel_rfl) ?_;intro K hK;simp only [↓bI,↓bp,bL,↓xw,↓tq,↓qz,eF,dP,nT,mn,mq,bL,DX,Nat.reduceBEq,List.toList_toArray,List.map_cons,List.map_nil,aI,DX,Nat.reduceBEq,↓DN,Qa,Qb,Qc,Qd,Qe,Qf,Qg,Qh,reduceCtorEq,↓reduceIte,Na,Nb,Nc,Nk,Nf,Ng,Nh,Za,Zb,Zc,TT,g8,g6,g7,ax,gQ,hj2,ZL,NJ,NK,pR (show u1 = u1 from rfl),Hu hv];refine hK _ _ ?_;clear hK K;refine jE ?_;refine jA ?_;refine jI ?_;exact jW ⟨by rw [xao fun q=>hv (by simpa using q)],rfl⟩
       ·refine bB T.mixed [] (by kernel_rfl) ?_;intro K hK;simp only [↓bI,↓bp,bL,↓xw,↓tq,↓qz,eF,dP,nT,mn,mq,bL,DX,Nat.reduceBEq,List.toList_toArray,List.map_cons,List.map_nil,aI,DX,Nat.reduceBEq,↓DN,Qa,Qb,Qc,Qd,Qe,Qf,Qg,Qh,reduceCtorEq,↓reduceIte,Na,Nb,Nc,Nk,Nf,Ng,Nh,Za,Zb,Zc,TT,g8,g6,g7,ax,gQ,hj2,ZL,NJ,NK,yP hu];refine hK _ _ ?_;clear hK K;refine jE ?_;refine jA ?_;refine jI ?_;exact jW ⟨by rw [xao fun q=>hu (by simp only [aY.mk.injEq] at q; exact q.1)],rfl⟩
      ·refine jB (Ai @g8 (Ai @g6 (Ai @ax (decide_eq_false gQ)))) ?_;refine jF ?_;refine aC ?_;simp only [az,aw,if_true,if_false];refine bC _ _ ?_;clear bC aW K2 K3;refine jD (Ai @g5 (bt i (by omega))) ?_;refine ⟨⟨i + 1,by omega,rfl,g2,g3,H3 (by rw [ue Ug gQ Sm]),rfl⟩,?_⟩;simp only [G5,aF,↓reduceIte];omega
    ·have xap : (⟨f1,t1⟩ : aM)≠⟨f2,t2⟩:=fun q=>hh2 (by simp only [aM.mk.injEq] at q; exact ⟨q.1,by rw [q.2]⟩);by_cases hf : f1 = f2
     ·have Ug : t1.length≠t2.length:=fun q=>hh2 ⟨hf,q⟩;refine jB (Ai (pR hf) (yP Ug)) ?_;refine jE ?_;refine jA ?_;refine jI ?_;exact jW ⟨by rw [vE xap],rfl⟩
     ·refine jB (yP hf) ?_;refine jE ?_;refine jA ?_;refine jI ?_;exact jW ⟨by rw [vE xap],rfl⟩
   ·refine jB (Ai @g5 (Ai @g2 (Ai @ax (decide_eq_false bc)))) ?_;refine jF ?_;refine aC ?_;simp only [az,aw,if_true];refine hK _ _ ?_;clear hK K aW K2;refine jA ?_;refine jI ?_;exact jW ⟨by rw [decide_eq_true (by rw [ue hll bc cu])],rfl⟩
 ·have Ek : decide ((⟨k1,p1,l1⟩ : bE) = ⟨k2,p2,l2⟩) = false:=decide_eq_false fun q=>hh (by simp only [bE.mk.injEq] at q; exact ⟨q.1,q.2.1,by rw [q.2.2]⟩);rw [Ek] at hK ⊢;clear Ek;by_cases q1 : k1 = k2
  ·by_cases q2 : p1 = p2
   ·have q3 : l1.length≠l2.length:=fun q=>hh ⟨q1,q2,q⟩;refine jB (Ai (pR q1) (Ai (Db q2) (yP q3))) ?_;refine jE ?_;refine jA ?_;exact jJ
   ·refine jB (Ai (pR q1) (Hu q2)) ?_;refine jE ?_;refine jA ?_;exact jJ
  ·refine jB (yP q1) ?_;refine jE ?_;refine jA ?_;exact jJ
theorem NL {a b : List UInt8} (h : a.length + b.length < 2 ^ 62) : (IntKind.i64.max < ((a.length + b.length : Nat) : Int)) = False:=dO h
theorem Sn {a b c : List UInt8} (h : a.length + b.length + c.length < 2 ^ 62) : (IntKind.i64.max < ((a.length + b.length + c.length : Nat) : Int)) = False∧(IntKind.i64.max < (((a ++ b).length + c.length : Nat) : Int)) = False:=⟨dO h,dO (by simpa using h)⟩
theorem rX (x : bE) (hw : x.wf) (hx : x.fits) (s : AS) : ah prog Γ 34 [.agg x.cells] s (fun r s'=>r = .v (.string ⟨x.text.toArray⟩)∧s' = s):=by
 refine ab func34 rfl ntmps34 results34 (by simp) ?_;obtain ⟨key,pa,ps⟩:=x;obtain ⟨w1,w2,w3⟩:=hw;obtain ⟨x1,x2,x3,x4⟩:=hx;simp only at w1 w2 w3 x1 x2 x3 x4;unfold bE.cells;have OW : bE.text ⟨key,pa,ps⟩ = be 8 key ++ (Cj 1 pa ++ (be 1 ps.length ++ cA aM.text ps)):=rfl;rw [OW];clear OW;have oW : ∀ i,(cA aM.text (ps.take i)).length≤71000:=by
  intro i;have h1:=jl (f:=aM.text) (n:=3529) (l:=ps.take i) fun y hy=>aM.gI (x1 y (List.mem_of_mem_take hy));have h2 : (ps.take i).length≤20:=(by rw [List.length_take]; omega);have h3 : (ps.take i).length * 3529≤20 * 3529:=Nat.mul_le_mul_right _ h2;omega
 have oc:=fun i (h : i < ps.length)=>fN (c:=aM.cells) (k:=2) (fun _=>rfl) h;generalize hXX : aK aM.cells ps = XX at *
 refine aU 1 (by simp [bU]) ?_;intro K hK;refine jM ?_;intro o ho;refine hK _ _ o _ rfl ho ?_;clear hK K ho;have hu : cB .u64 (ps.length : Int) = (ps.length : Int):=tf (by omega);have hT1:=fun s=>jx (Γ:=Γ) pa 1 (by omega) (by decide) s;change ∀ s,ah _ _ _ _ s (fun r s'=>r = .v (.string ⟨(Cj 1 pa).toArray⟩)∧s' = s) at hT1;have lT:=ua 1 pa;have hb8:=b8 8 key;have BG:=b8 1 ps.length;have hN8:=fun s=>dz (Γ:=Γ) key 8 w1 (by decide) s;have hN1:=fun s=>dz (Γ:=Γ) ps.length 1 (by omega) (by decide) s;generalize Cj 1 pa = A2 at *
 generalize be 8 key = A1 at *
 generalize be 1 ps.length = A3 at *
 refine bB T.mixed [2,6,12] (by kernel_rfl) ?_;intro K hK;refine jN @hu ?_;refine ad (hN8 _) ?_;rintro r s1 ⟨rfl,rfl⟩;refine jM ?_;refine ad (hT1 _) ?_;rintro r s2 ⟨rfl,rfl⟩;refine jN (Ai @hu (NL (show A1.length + A2.length < 2 ^ 62 by omega))) ?_;refine ad (hN1 _) ?_;rintro r s3 ⟨rfl,rfl⟩;refine jV (Sn (show A1.length + A2.length + A3.length < 2 ^ 62 by omega)) hK ?_;clear hK K;refine wK fun K hK=>?_;refine jA ?_;refine al ?_;have Vs : (A1 ++ (A2 ++ A3)).length≤1000:=(by rw [List.length_append,List.length_append]; omega);have Zu : A1 ++ (A2 ++ (A3 ++ cA aM.text ps)) = (A1 ++ (A2 ++ A3)) ++ cA aM.text ps:=(by simp only [List.append_assoc]);rw [Zu] at hK ⊢;clear Zu;generalize A1 ++ (A2 ++ A3) = VI at *
 refine aE (fun E s9=>∃ i : Nat,i≤ps.length∧E 4 = .v (.int .i64 i)∧E 3 = .v (.string ⟨(VI ++ cA aM.text (ps.take i)).toArray⟩)∧E 1 = .dq [.v (.int .u64 key),.sl 1 pa.length (pa.map ai) .any,.sl 2 ps.length XX .any]∧s9 = s3)
  (fun E _=>match E 4 with | .v (.int _ i)=>ps.length - i.toNat | _=>0) ?_ ?_
 ·exact ⟨0,Nat.zero_le _,rfl,by simp only [aF,Nc,↓reduceIte]; simp [cA],rfl,rfl⟩
 ·clear hN8 hN1 hT1 lT hb8 BG hu;rintro E1 s9 ⟨i,hi,g4,g3,g1,rfl⟩ -
  refine wK fun K2 aW=>?_;by_cases bc : i < ps.length
  ·refine jB (Ai @g4 (Ai @g1 (Ai @ax (decide_eq_true bc)))) ?_;refine jE ?_;refine ag ?_;refine aW _ _ ?_;clear aW K2;refine wK fun K3 bC=>?_;refine al ?_;have dI:=oc i bc;have dr : (0 : Int)≤(i : Int):=(by omega);have VH:=ot aM.text bc;have xdM:=oW i;have Sb : (VI ++ cA aM.text (ps.take i)).length≤100000:=(by rw [List.length_append]; omega);have Ke : VI ++ cA aM.text (ps.take (i + 1)) = (VI ++ cA aM.text (ps.take i)) ++ aM.text ps[i]:=(by rw [VH,List.append_assoc]);generalize VI ++ cA aM.text (ps.take i) = S at *
   obtain ⟨y,hy⟩ : ∃ y,y = ps[i]:=⟨_,rfl⟩;rw [← hy] at dI Ke;have hym : y ∈ ps:=(by rw [hy]; exact List.getElem_mem bc);have ZB:=w2 y hym;have sM:=x1 y hym;clear hy VH;obtain ⟨f,t⟩:=y;obtain ⟨yw1,yw2,yw3⟩:=ZB;obtain ⟨Uq,yr2,yr3⟩:=sM;simp only at yw1 yw2 yw3 Uq yr2 yr3;rw [show aM.text ⟨f,t⟩ = be 8 f ++ (be 1 t.length ++ cA aY.fq t) from rfl] at Ke;unfold aM.cells at dI;have Ur : ∀ i,(cA aY.fq (t.take i)).length≤3520:=by
    intro i;have h1:=jl (f:=aY.fq) (n:=110) (l:=t.take i) fun y hy=>aY.gI (Uq y (List.mem_of_mem_take hy));have h2 : (t.take i).length≤32:=(by rw [List.length_take]; omega);have h3 : (t.take i).length * 110≤32 * 110:=Nat.mul_le_mul_right _ h2;omega
   have y6:=fun i (h : i < t.length)=>fN (c:=aY.cells) (k:=2) (fun _=>rfl) h;generalize aK aY.cells t = TZ at *
   refine aU 5 (by simp [bU]) ?_;intro K2 aW;refine jN (Ai @g4 (Ai @g1 (Ai @ax (Ai @bc (Ai @dr @dI))))) ?_;intro o ho;refine aW _ _ o _ rfl ho ?_;clear aW K2 ho;have hu : cB .u64 (t.length : Int) = (t.length : Int):=tf (by omega);have hb8:=b8 8 f;have BG:=b8 1 t.length;have hN8:=fun s=>dz (Γ:=Γ) f 8 yw1 (by decide) s;have hN1:=fun s=>dz (Γ:=Γ) t.length 1 (by omega) (by decide) s;generalize be 8 f = B1 at *
   generalize be 1 t.length = B2 at *
   refine bB T.mixed [3,9] (by kernel_rfl) ?_;intro K hK;refine jN @g3 ?_;refine ad (hN8 _) ?_;rintro r s4 ⟨rfl,rfl⟩;refine jN (Ai @hu (NL (show S.length + B1.length < 2 ^ 62 by omega))) ?_;refine ad (hN1 _) ?_;rintro r s5 ⟨rfl,rfl⟩;refine jV (Sn (show S.length + B1.length + B2.length < 2 ^ 62 by omega)) hK ?_;clear hK K;refine jA ?_;refine al ?_;have xjg : (S ++ (B1 ++ B2)).length≤110000:=(by rw [List.length_append,List.length_append]; omega);have xdV : VI ++ cA aM.text (ps.take (i + 1)) = (S ++ (B1 ++ B2)) ++ cA aY.fq t:=(by rw [Ke]; simp only [List.append_assoc]);generalize S ++ (B1 ++ B2) = S2 at *
   clear Ke hN8 hN1 dI;refine aE (fun E s9=>∃ k : Nat,k≤t.length∧E 6 = .v (.int .i64 k)∧E 3 = .v (.string ⟨(S2 ++ cA aY.fq (t.take k)).toArray⟩)∧E 5 = .dq [.v (.int .u64 f),.sl 2 t.length TZ .any]∧E 4 = .v (.int .i64 i)∧E 1 = .dq [.v (.int .u64 key),.sl 1 pa.length (pa.map ai) .any,.sl 2 ps.length XX .any]∧s9 = s5)
    (fun E _=>match E 6 with | .v (.int _ i)=>t.length - i.toNat | _=>0) ?_ ?_
   ·exact ⟨0,Nat.zero_le _,rfl,by simp only [aF,Nc,↓reduceIte]; simp [cA],rfl,g4,g1,rfl⟩
   ·have G4:=g4;clear g4 g1 g3;rintro E2 OS ⟨k,hk,g6,g3,g5,g4,g1,rfl⟩ -
    refine wK fun K2 aW=>?_;by_cases oT : k < t.length
    ·refine jB (Ai @g6 (Ai @g5 (Ai @ax (decide_eq_true oT)))) ?_;refine jE ?_;refine ag ?_;refine aW _ _ ?_;clear aW K2;refine wK fun K4 ei=>?_;refine al ?_;have dI:=y6 k oT;have dr : (0 : Int)≤(k : Int):=(by omega);have KJ:=ot aY.fq oT;have xdQ:=Ur k;have xjh : (S2 ++ cA aY.fq (t.take k)).length≤120000:=(by rw [List.length_append]; omega);have xas : S2 ++ cA aY.fq (t.take (k + 1)) = (S2 ++ cA aY.fq (t.take k)) ++ aY.fq t[k]:=(by rw [KJ,List.append_assoc]);generalize S2 ++ cA aY.fq (t.take k) = S3 at *
     obtain ⟨z,hz⟩ : ∃ z,z = t[k]:=⟨_,rfl⟩;rw [← hz] at dI xas;have hzm : z ∈ t:=(by rw [hz]; exact List.getElem_mem oT);have Uu:=yw2 z hzm;have hzr:=Uq z hzm;clear hz KJ;have sy:=aY.gI hzr;obtain ⟨fz,tz⟩:=z;have zr2 : tz.length≤100:=hzr;have Uu : fz < 2 ^ 64:=Uu;have Vw:=fun s=>xi (Γ:=Γ) fz tz Uu (by omega) s;rw [show NF fz tz = aY.fq ⟨fz,tz⟩ from rfl] at Vw;generalize aY.fq ⟨fz,tz⟩ = W0 at *
     unfold aY.cells at dI;refine eK T.mixed [15] (by kernel_rfl) ?_;intro K hK;refine jN (Ai @g6 (Ai @g5 (Ai @g3 (Ai @ax (Ai @oT (Ai @dr @dI)))))) ?_;refine ad (Vw _) ?_;rintro r P0 ⟨rfl,rfl⟩;refine jV (NL (show S3.length + W0.length < 2 ^ 62 by omega)) hK ?_;clear hK K;simp only [aw,az,if_true,if_false];refine ei _ _ ?_;clear ei K4;refine jD (Ai @g6 (bt k (by omega))) ?_;refine ⟨⟨k + 1,by omega,rfl,by simp only [aF,Nc,↓reduceIte]; rw [xas],g5,g4,g1,rfl⟩,?_⟩;simp only [g6,aF,↓reduceIte];omega
    ·refine jB (Ai @g6 (Ai @g5 (Ai @ax (decide_eq_false oT)))) ?_;refine jF ?_;refine aC ?_;simp only [az,aw,if_true,if_false];rw [List.take_of_length_le (by omega),← xdV] at g3;refine bC _ _ ?_;clear bC aW K2 K3;refine jD (Ai @g4 (bt i (by omega))) ?_;refine ⟨⟨i + 1,by omega,rfl,g3,g1,rfl⟩,?_⟩;simp only [G4,aF,↓reduceIte];omega
  ·refine jB (Ai @g4 (Ai @g1 (Ai @ax (decide_eq_false bc)))) ?_;refine jF ?_;refine aC ?_;simp only [az,aw,if_true];rw [List.take_of_length_le (by omega)] at g3;refine hK _ _ ?_;clear hK K aW K2;refine jB @g3 ?_;exact jJ
def di (st : aX) : aY × aX:=(⟨(et 48 st).1.1,(et 48 st).1.2⟩,(et 48 st).2)
def cT {α : Type} (f : aX→α × aX) : Nat→aX→List α × aX
  | 0,st=>([],st)
  | n + 1,st=>((cT f n st).1 ++ [(f (cT f n st).2).1],(f (cT f n st).2).2)
def dw (st : aX) : aM × aX :=
  let a:=bm 8 st
  let n:=bm 1 a.2
  let q:=cT di n.1 n.2
  (⟨a.1,q.1⟩,q.2)
def ou (st : aX) : bE × aX :=
  let a:=bm 8 st
  let b:=bq 1 32 a.2
  let n:=bm 1 b.2
  let q:=cT dw n.1 n.2
  (⟨a.1,b.1,q.1⟩,q.2)
def zO : bE:=⟨0,[],[]⟩
def iI (st : aX) : bE × aX:=(if (ou st).2.2 = 0 then (ou st).1 else zO,(ou st).2)
theorem H6 (most : Int) (st : aX) : (et most st).2.1.length≤st.1.length:=by
  unfold et Up;simp only;refine Nat.le_trans (pE _ _ _).2 ?_;rw [vz];exact cF _ _
theorem sn (st : aX) : (di st).2.1.length≤st.1.length:=H6 _ _
theorem lg {α : Type} {f : aX→α × aX} (h : ∀ st,(f st).2.1.length≤st.1.length) : ∀ (n : Nat) (st : aX),(cT f n st).2.1.length≤st.1.length
  | 0,_=>Nat.le_refl _
  | n + 1,st=>Nat.le_trans (h _) (lg h n st)
theorem fS {α : Type} {f : aX→α × aX} : ∀ (n : Nat) (st : aX),(cT f n st).1.length = n
  | 0,_=>rfl
  | n + 1,st=>by simp [cT,fS n st]
theorem zQ {α : Type} {f : aX→α × aX} {Q : α→Prop} (h : ∀ st,Q (f st).1) : ∀ (n : Nat) (st : aX),∀ x ∈ (cT f n st).1,Q x
  | 0,_=>by intro x hx; cases hx
  | n + 1,st=>by
    intro x hx;simp only [cT,List.mem_append,List.mem_singleton] at hx;rcases hx with hx | rfl
    · exact zQ h n st x hx
    · exact h _
theorem zR (st : aX) : (dw st).2.1.length≤st.1.length :=
  Nat.le_trans (lg sn _ _) (Nat.le_trans (cF _ _) (cF _ _))
theorem sq (st : aX) : (bm 8 st).1 < 2 ^ 64:=Nat.lt_of_lt_of_le (uH 8 st) (by decide)
theorem NM (most : Int) (st : aX) : (et most st).1.1 < 2 ^ 64:=by
  unfold et Up;simp only;split
  · exact sq st
  · decide
theorem NN (st : aX) : (di st).1.wf:=NM _ _
theorem jm (st : aX) : (bm 1 st).1 < 256:=Nat.lt_of_lt_of_le (uH 1 st) (by decide)
theorem NP (st : aX) : (dw st).1.wf∧(dw st).1.c7.length < 256:=by
  have h : (dw st).1.c7.length < 256:=(by simp only [dw,fS]; exact jm _);refine ⟨⟨sq _,fun x hx=>zQ NN _ _ x hx,?_⟩,h⟩;have : (256 : Nat)≤maxLen:=(by decide);omega
theorem KM : zO.wf:=⟨by decide,(by intro x hx; cases hx),by decide⟩
theorem H7 (st : aX) : (ou st).1.wf∧(ou st).1.steps.length < 256:=by
  have h : (ou st).1.steps.length < 256:=(by simp only [ou,fS]; exact jm _);refine ⟨⟨sq _,fun x hx=>zQ (fun st=>(NP st).1) _ _ x hx,?_⟩,h⟩;have : (256 : Nat)≤maxLen:=(by decide);omega
theorem MO (st : aX) : (iI st).1.wf:=by
  simp only [iI];split
  · exact (H7 st).1
  · exact KM
theorem kj (a b : AV) : lW 2 [a,b] = [a,b]:=rfl
theorem Co {k : Nat} {pa : List UInt8} {l : List aM} {x : AV} (h : x.aA (.sl 2 l.length (aK aM.cells l) .any)) :
  (AV.agg [.v (.int .u64 k),.sl 1 pa.length (pa.map ai) .any,x]).aA (.agg (bE.cells ⟨k,pa,l⟩)) :=
 AV.j9 (.cons (AV.aA.refl _) (.cons (AV.aA.refl _) (.cons h .nil)))
theorem wA : (AV.agg [.v (.int .u64 0),.v (.slice none 0 0),.v (.slice none 0 0)]).aA (.agg zO.cells) :=
 AV.j9 (.cons (AV.aA.refl _) (.cons AV.aJ (.cons AV.aJ .nil)))
theorem y7 (s : AS) (p : Nat) (st : aX) (hl : st.1.length≤2 ^ 44) (h : s.aq p = some (dW st)) :
  ah prog Γ 36 [.ptr p 0] s (fun r s'=>r = .agg (iI st).1.cells∧s' = s.set p (dW (iI st).2)):=by
 refine ab func36 rfl ntmps36 results36 (by simp) ?_;obtain ⟨q1,e1⟩ : ∃ q,q = bm 8 st:=⟨_,rfl⟩;obtain ⟨q2,e2⟩ : ∃ q,q = bq 1 32 q1.2:=⟨_,rfl⟩;obtain ⟨q3,e3⟩ : ∃ q,q = bm 1 q2.2:=⟨_,rfl⟩;obtain ⟨q4,e4⟩ : ∃ q,q = cT dw q3.1 q3.2:=⟨_,rfl⟩;have l1 : q1.2.1.length≤2 ^ 44:=(by rw [e1]; exact Nat.le_trans (cF _ _) hl);have l2 : q2.2.1.length≤2 ^ 44:=(by rw [e2]; exact Nat.le_trans (pE _ _ _).2 l1);have l3 : q3.2.1.length≤2 ^ 44:=(by rw [e3]; exact Nat.le_trans (cF _ _) l2);have k3 : q3.1 < 256:=(by rw [e3]; exact jm _);have NC : iI st = (if q4.2.2 = 0 then ⟨q1.1,q2.1,q4.1⟩ else zO,q4.2):=(by subst e4 e3 e2 e1; rfl);have q4l : q4.1.length = q3.1:=(by rw [e4,fS]);refine jQ fun K hK=>?_;intro o2 iR;have pM:=ud h iR;refine hK _ _ ?_;clear hK K;obtain ⟨z,hz⟩ : ∃ z : List AV,z = [.v (.int .u64 0),.v (.slice none 0 0),.v (.slice none 0 0)]:=⟨_,rfl⟩;refine wK fun K1 gE=>?_;have h1 : ∀ (E : Env) (s1 : AS) (o3 : Nat),E 0 = .ptr p 0→E 2 = .ptr o2 0→E 3 = .ptr o3 0→qD s s1 p o2 o3 (dW q2.2) z [.v (.int .u64 q1.1),aj q2.1 .any,.v (.slice none 0 0)]→K1 E s1:=by
  intro E s1 o3 g0 g2 g3 J;refine gE _ _ ?_;clear gE K1;refine wK fun K2 aW=>?_;have h2 : ∀ (E : Env) (s1 : AS) (x : AV),E 0 = .ptr p 0→E 2 = .ptr o2 0→E 3 = .ptr o3 0→cO 2 s s1 x q4.1.length (aK aM.cells q4.1)→qD s s1 p o2 o3 (dW q4.2) z [.v (.int .u64 q1.1),aj q2.1 .any,x]→K2 E s1:=by
   clear J g0 g2 g3 E s1;intro E s1 x g0 g2 g3 hx J;refine aW _ _ ?_;clear aW K2;have jr:=J.res;have jv:=J.var;have jd:=J.d;have ND:=J.d.symm;have ox:=hx.one;have wx:=hx.aA;simp only [AV.one] at ox;rw [hz] at jr;refine wK fun K6 kn=>?_;refine jS @g0 fun K hK=>?_;refine ad (ve _ p _ J.xx) ?_;rintro r s2 ⟨rfl,rfl⟩;by_cases he : q4.2.2 = 0
   ·rw [he];refine jV (eU 0 rfl) hK ?_;clear hK K;refine jF ?_;refine ag ?_;refine kn _ _ ?_;clear kn K6;refine jB (Ai @g3 (Ai @g2 (Ai @jv (Ai @jr (Ai @jd (Ai @ND @ox)))))) ?_;refine a7 ?_;refine ch (o:=o2) (off:=0) g2 (AS.aa _ _ _) (by rw [T.Li]; decide) (by simp only [↓DN,Qa,Qb,Qc,Qd,Qe,Qf,Qg,Qh,reduceCtorEq,↓reduceIte,Na,Nb,Nc,Nk,Nf,Ng,Nh,Za,Zb,Zc,TT]; rfl) ?_;rw [NC,if_pos he];exact ⟨_,_,Co wx,(J.pO _).out,rfl,rfl⟩
   ·refine jV (fL _ he) hK ?_;clear hK K;refine jE ?_;refine jB (Ai @g3 (Ai @g2 (Ai @jv (Ai @jr (Ai @jd @ND))))) ?_;refine a7 ?_;try simp only [az,aw]
    refine ch (o:=o2) (off:=0) g2 (AS.aa _ _ _) (by rw [T.Li]; decide) (by simp only [↓DN,Qa,Qb,Qc,Qd,Qe,Qf,Qg,Qh,reduceCtorEq,↓reduceIte,Na,Nb,Nc,Nk,Nf,Ng,Nh,Za,Zb,Zc,TT]; rfl) ?_;rw [NC,if_neg he];exact ⟨_,_,wA,(J.pO _).out,rfl,rfl⟩
  clear aW;refine jS @g0 fun K hK=>?_;refine ad (B7 _ p _ J.xx) ?_;rintro r s2 ⟨rfl,rfl⟩;rw [← e3];have J2:=J.gp (dW q3.2);clear J;generalize s1.set p (dW q3.2) = s2 at *
  refine jR hK ?_;clear hK K;refine al ?_;refine aE (fun E s2=>∃ (i : Nat) (x : AV),i≤q3.1∧E 12 = .v (.int .i64 i)∧E 11 = .v (.int .i64 q3.1)∧E 0 = .ptr p 0∧E 2 = .ptr o2 0∧E 3 = .ptr o3 0∧cO 2 s s2 x i (aK aM.cells (cT dw i q3.2).1) ∧
    qD s s2 p o2 o3 (dW (cT dw i q3.2).2) z [.v (.int .u64 q1.1),aj q2.1 .any,x])
   (fun E _=>match E 12 with | .v (.int _ i)=>q3.1 - i.toNat | _=>0) ?_ ?_
  ·exact ⟨0,_,Nat.zero_le _,rfl,rfl,g0,g2,g3,cO.nil _ _ _,J2⟩
  ·clear J2 g0 g2 g3 s2;rintro E1 s4 ⟨i,x,hi,g12,g11,g0,g2,g3,hx,J⟩ -
   by_cases bc : i < q3.1
   ·refine jB (Ai @g12 (Ai @g11 (Ai @ax (decide_eq_true bc)))) ?_;refine wK fun K7 wu=>?_;refine jE ?_;refine ag ?_;refine wu _ _ ?_;clear wu K7;refine wK fun K7 wu=>?_;refine al ?_;have dU : ∀ (E2 : Env) (s5 : AS) (x1 x2 : AV),x1.aA x2→E2 12 = .v (.int .i64 i)→E2 11 = .v (.int .i64 q3.1)→E2 0 = .ptr p 0→E2 2 = .ptr o2 0→E2 3 = .ptr o3 0→cO 2 s s5 x2 (i + 1) (aK aM.cells (cT dw (i + 1) q3.2).1) →
      qD s s5 p o2 o3 (dW (cT dw (i + 1) q3.2).2) z [.v (.int .u64 q1.1),aj q2.1 .any,x1]→K7 E2 s5:=by
     intro E2 s5 x1 x2 hw f12 f11 f0 f2 f3 fx fJ;refine wu _ _ ?_;clear wu K7;refine kX (AS.jj fJ.var (.cons (AV.aA.refl _) (.cons (AV.aA.refl _) (.cons hw .nil)))) ?_;replace fJ:=fJ.nX [.v (.int .u64 q1.1),aj q2.1 .any,x2];replace fx : cO 2 s (s5.set o3 [.v (.int .u64 q1.1),aj q2.1 .any,x2]) x2 (i + 1) (aK aM.cells (cT dw (i + 1) q3.2).1):=fx;generalize s5.set o3 [.v (.int .u64 q1.1),aj q2.1 .any,x2] = s6 at *
     refine jD (Ai @f12 (eE i (by omega))) ?_;refine ⟨⟨i + 1,x2,by omega,rfl,f11,f0,f2,f3,fx,fJ⟩,?_⟩;simp only [g12,aF,↓reduceIte];omega
    clear wu;have hSt : ∀ n,(cT dw n q3.2).2.1.length≤2 ^ 44:=fun n=>Nat.le_trans (lg zR _ _) l3;obtain ⟨NQ,DS⟩ : ∃ q,q = (cT dw i q3.2).2:=⟨_,rfl⟩;have li : NQ.1.length≤2 ^ 44:=(by rw [DS]; exact hSt i);have qh : (cT dw (i + 1) q3.2) = ((cT dw i q3.2).1 ++ [(dw NQ).1],(dw NQ).2):=(by rw [DS]; rfl);rw [qh] at dU;rw [← DS] at J;obtain ⟨L,hL⟩ : ∃ q,q = (cT dw i q3.2).1:=⟨_,rfl⟩;have Uw : L.length = i:=(by rw [hL,fS]);rw [← hL] at hx dU;clear qh hSt hL DS;obtain ⟨qa,ea⟩ : ∃ q,q = bm 8 NQ:=⟨_,rfl⟩;obtain ⟨qb,eb⟩ : ∃ q,q = bm 1 qa.2:=⟨_,rfl⟩;obtain ⟨qc,ec⟩ : ∃ q,q = cT di qb.1 qb.2:=⟨_,rfl⟩;have la : qa.2.1.length≤2 ^ 44:=(by rw [ea]; exact Nat.le_trans (cF _ _) li);have lb : qb.2.1.length≤2 ^ 44:=(by rw [eb]; exact Nat.le_trans (cF _ _) la);have kb : qb.1 < 256:=(by rw [eb]; exact jm _);have gy : qc.1.length = qb.1:=(by rw [ec,fS]);have ir : dw NQ = (⟨qa.1,qc.1⟩,qc.2):=(by subst ec eb ea; rfl);rw [ir] at dU;simp only at dU;clear ir;refine jS @g0 fun K hK=>?_;refine ad (rY _ p _ J.xx) ?_;rintro r s5 ⟨rfl,rfl⟩;rw [← ea];have J5:=J.gp (dW qa.2);have hx5 : cO 2 s (s4.set p (dW qa.2)) x i (aK aM.cells L):=hx;generalize s4.set p (dW qa.2) = s5 at *
    refine jM ?_;intro o4 zq;have J6:=J5.Hr zq [.v (.int .u64 qa.1),.v (.slice none 0 0)];have hx6 : cO 2 s (s5.set o4 [.v (.int .u64 qa.1),.v (.slice none 0 0)]) x i (aK aM.cells L):=hx5;have Vr : ∀ t,(s5.set o4 [.v (.int .u64 qa.1),.v (.slice none 0 0)]).own t = none→s.own t = none:=fun t h=>J6.rd.iv h;clear J5 hx5 hx J;refine hK _ _ ?_;clear hK K;generalize s5.set o4 [.v (.int .u64 qa.1),.v (.slice none 0 0)] = s6 at *
    refine wK fun K8 Ux=>?_;have h8 : ∀ (E : Env) (s7 : AS) (y : AV),E 12 = .v (.int .i64 i)→E 11 = .v (.int .i64 q3.1)→E 0 = .ptr p 0→E 2 = .ptr o2 0→E 3 = .ptr o3 0→E 4 = .ptr o4 0→cO 2 s s7 x i (aK aM.cells L)→cO 2 s6 s7 y qc.1.length (aK aY.cells qc.1) →
      Da s s7 p o2 o3 o4 (dW qc.2) z [.v (.int .u64 q1.1),aj q2.1 .any,x] [.v (.int .u64 qa.1),y]→K8 E s7:=by
     clear J6 hx6 g12 g11 g0 g2 g3;intro E s7 y g12 g11 g0 g2 g3 g4 hx hy J;refine Ux _ _ ?_;clear Ux K8;have jv:=J.rd.var;have jo:=J.obj;have jd3:=J.d3;have NR:=J.d3.symm;have oy:=hy.one;have wy:=hy.aA;simp only [AV.one] at oy;have hwS : eL.aA [.v (.int .u64 qa.1),y] (aM.cells ⟨qa.1,qc.1⟩):=.cons (AV.aA.refl _) (.cons wy .nil);have JN : aK aM.cells (L ++ [⟨qa.1,qc.1⟩]) = aK aM.cells L ++ aM.cells ⟨qa.1,qc.1⟩:=pT _ _;rcases hx with ⟨rfl,ic,BT⟩ | ⟨t,e,rfl,ht,gM⟩
     ·refine wE fun K hK=>?_;simp only [↓DN,Qa,Qb,Qc,Qd,Qe,Qf,Qg,Qh,reduceCtorEq,↓reduceIte,Na,Nb,Nc,Nk,Nf,Ng,Nh,Za,Zb,Zc,TT,g3,g4,jv,jo,jd3,NR,oy,bZ,kj];intro t ht;refine hK _ _ ?_;clear hK K;have gM:=J.rd.iv ht;have Uy : (aK aM.cells (L ++ [⟨qa.1,qc.1⟩])) = aM.cells ⟨qa.1,qc.1⟩:=(by rw [JN,BT]; rfl);refine dU _ _ _ (.sl 2 (i + 1) (aK aM.cells (L ++ [⟨qa.1,qc.1⟩])) (.own t 0)) ?_ g12 g11 g0 g2 g3 ?_ ((J.rd.bo gM 0).nX _)
      ·rw [Uy,ic];exact AV.gF hwS
      ·exact .inr ⟨t,0,rfl,by simp [AS.set,AS.bo],gM⟩
     ·refine jU (Ai @g3 (Ai @g4 (Ai @jv (Ai @jo (Ai @jd3 (Ai @NR (Ai @oy (Ai @ht @kj)))))))) fun K hK=>?_;refine ⟨by omega,by omega,?_⟩;refine hK _ _ ?_;clear hK K;refine dU _ _ _ (.sl 2 (i + 1) (aK aM.cells (L ++ [⟨qa.1,qc.1⟩])) (.own t (e + 1))) ?_ g12 g11 g0 g2 g3 ?_ ((J.rd.bo gM (e + 1)).nX _)
      ·rw [JN];exact AV.gF (eL.aA.append (eL.aA.refl _) hwS)
      ·exact .inr ⟨t,e + 1,rfl,by simp [AS.set,AS.bo],gM⟩
    clear Ux dU;refine jS @g0 fun K hK=>?_;refine ad (B7 _ p _ J6.rd.xx) ?_;rintro r s7 ⟨rfl,rfl⟩;rw [← eb];have J7:=J6.gp (dW qb.2);refine jR hK ?_;clear hK K;refine al ?_;refine aE (fun E s8=>∃ (j : Nat) (y : AV),j≤qb.1∧E 19 = .v (.int .i64 j)∧E 18 = .v (.int .i64 qb.1)∧E 12 = .v (.int .i64 i)∧E 11 = .v (.int .i64 q3.1)∧E 0 = .ptr p 0∧E 2 = .ptr o2 0∧E 3 = .ptr o3 0∧E 4 = .ptr o4 0 ∧
      (∀ t e,s6.own t = some e→s8.own t = some e)∧cO 2 s6 s8 y j (aK aY.cells (cT di j qb.2).1)∧Da s s8 p o2 o3 o4 (dW (cT di j qb.2).2) z [.v (.int .u64 q1.1),aj q2.1 .any,x] [.v (.int .u64 qa.1),y])
     (fun E _=>match E 19 with | .v (.int _ j)=>qb.1 - j.toNat | _=>0) ?_ ?_
    ·exact ⟨0,_,Nat.zero_le _,rfl,rfl,g12,g11,g0,g2,g3,rfl,fun t e h=>h,cO.nil _ _ _,J7⟩
    ·clear J7 J6 g12 g11 g0 g2 g3;rintro E2 s8 ⟨j,y,hj,g19,g18,g12,g11,g0,g2,g3,g4,vp,hy,J⟩ -
     have jo:=J.obj;have jp:=J.p4;have Ll:=J.p4.symm;by_cases gQ : j < qb.1
     ·refine jB (Ai @g19 (Ai @g18 (Ai @ax (decide_eq_true gQ)))) ?_;refine wK fun K9 Jo=>?_;refine jE ?_;refine ag ?_;refine Jo _ _ ?_;clear Jo K9;refine wK fun K9 Jo=>?_;refine al ?_;have dU : ∀ (E3 : Env) (s9 : AS) (y2 : AV),E3 19 = .v (.int .i64 j)→E3 18 = .v (.int .i64 qb.1)→E3 12 = .v (.int .i64 i)→E3 11 = .v (.int .i64 q3.1)→E3 0 = .ptr p 0→E3 2 = .ptr o2 0→E3 3 = .ptr o3 0→E3 4 = .ptr o4 0 →
        (∀ t e,s6.own t = some e→s9.own t = some e)→cO 2 s6 s9 y2 (j + 1) (aK aY.cells (cT di (j + 1) qb.2).1)→Da s s9 p o2 o3 o4 (dW (cT di (j + 1) qb.2).2) z [.v (.int .u64 q1.1),aj q2.1 .any,x] [.v (.int .u64 qa.1),y2]→K9 E3 s9:=by
       intro E3 s9 y2 f19 f18 f12 f11 f0 f2 f3 f4 fo fy fJ;refine Jo _ _ ?_;clear Jo K9;refine jD (Ai @f19 (eE j (by omega))) ?_;refine ⟨⟨j + 1,y2,by omega,rfl,f18,f12,f11,f0,f2,f3,f4,fo,fy,fJ⟩,?_⟩;simp only [g19,aF,↓reduceIte];omega
      clear Jo;have hlj : (cT di j qb.2).2.1.length≤2 ^ 44:=Nat.le_trans (lg sn _ _) lb;have qh : (cT di (j + 1) qb.2) = ((cT di j qb.2).1 ++ [(di (cT di j qb.2).2).1],(di (cT di j qb.2).2).2):=rfl;rw [qh] at dU;have hMl : (cT di j qb.2).1.length = j:=fS _ _;generalize (cT di j qb.2).1 = M at *
      generalize (cT di j qb.2).2 = DU at *
      simp only [pT] at dU;rcases hy with ⟨rfl,hj0,hM0⟩ | ⟨t,e,rfl,ht,gM⟩
      ·refine cw T.mixed [(o4,[.v (.int .u64 qa.1),bZ])] [3,5] [1] [7] (by kernel_rfl) (by simp only [aD,aG,and_true]; simp [AS.set,aF,jo]) ?_;intro K hK;simp only [↓bd,↓aS,cZ,cV,aL,aO,aD,aG,List.any_cons,List.any_nil,List.contains_cons,List.contains_nil,Nat.reduceBEq,Bool.or_false,Bool.or_true,Bool.or_self,Bool.false_or,↓DN,Qa,Qb,Qc,Qd,Qe,Qf,Qg,Qh,reduceCtorEq,↓reduceIte,Na,Nb,Nc,Nk,Nf,Ng,Nh,Za,Zb,Zc,TT,g4,g0,bZ,jo,jp,Ll];refine ad (wz _ p DU 48 hlj J.rd.xx) ?_;rintro r s9 ⟨rfl,rfl⟩;simp only [↓bI,↓bp,bL,↓bd,↓aS,cZ,cV,aL,aO,aD,aG,List.any_cons,List.any_nil,DX,Nat.reduceBEq,↓DN,Qa,Qb,Qc,Qd,Qe,Qf,Qg,Qh,reduceCtorEq,↓reduceIte,Na,Nb,Nc,Nk,Nf,Ng,Nh,Za,Zb,Zc,TT,g4,g0,jo,jp,Ll,kj,bZ];intro t ht;have gM:=J.rd.iv ht;have Uz : s6.own t = none:=by
        cases e6 : s6.own t with
        | none=>rfl
        | some e=>have:=vp t e e6; rw [ht] at this; cases this
       refine hK _ _ (dU _ _ _ g19 g18 g12 g11 g0 g2 g3 g4 ?_ ?_ (((J.gp _).bo gM 0).setObj _))
       ·intro t' e' h';have:=C9 h' Uz;simp only [AS.set,AS.bo,aF,this,if_false];exact vp t' e' h'
       ·exact .inr ⟨t,0,by rw [hM0,hj0]; rfl,by simp [AS.set,AS.bo],Uz⟩
      ·have UA : s.own t = none:=Vr t gM;refine cw T.mixed [(o4,[.v (.int .u64 qa.1),.sl 2 j (aK aY.cells M) (.own t e)])] [3,5] [1] [7] (by kernel_rfl) (by simp only [aD,aG,and_true]; simp [AS.set,aF,jo]) ?_;intro K hK;simp only [↓bd,↓aS,cZ,cV,aL,aO,aD,aG,List.any_cons,List.any_nil,List.contains_cons,List.contains_nil,Nat.reduceBEq,Bool.or_false,Bool.or_true,Bool.or_self,Bool.false_or,↓DN,Qa,Qb,Qc,Qd,Qe,Qf,Qg,Qh,reduceCtorEq,↓reduceIte,Na,Nb,Nc,Nk,Nf,Ng,Nh,Za,Zb,Zc,TT,g4,g0,jo,jp,Ll];refine ad (wz _ p DU 48 hlj J.rd.xx) ?_;rintro r s9 ⟨rfl,rfl⟩;simp only [↓bI,↓bp,bL,↓bd,↓aS,cZ,cV,aL,aO,aD,aG,List.any_cons,List.any_nil,DX,Nat.reduceBEq,↓DN,Qa,Qb,Qc,Qd,Qe,Qf,Qg,Qh,reduceCtorEq,↓reduceIte,Na,Nb,Nc,Nk,Nf,Ng,Nh,Za,Zb,Zc,TT,g4,g0,jo,jp,Ll,kj,ht];refine ⟨by omega,by omega,hK _ _ (dU _ _ _ g19 g18 g12 g11 g0 g2 g3 g4 ?_ ?_ (((J.gp _).bo UA (e + 1)).setObj _))⟩
       ·intro t' e' h';have:=C9 h' gM;simp only [AS.set,AS.bo,aF,this,if_false];exact vp t' e' h'
       ·exact .inr ⟨t,e + 1,rfl,by simp [AS.set,AS.bo],gM⟩
     ·refine jB (Ai @g19 (Ai @g18 (Ai @ax (decide_eq_false gQ)))) ?_;refine wK fun K9 Jo=>?_;refine jF ?_;refine aC ?_;simp only [az,aw,if_true];obtain rfl : j = qb.1:=(by omega);rw [← ec] at hy J;rw [← gy] at hy;exact h8 _ _ _ g12 g11 g0 g2 g3 g4 (hx6.own fun t e h _=>vp t e h) hy J
   ·refine jB (Ai @g12 (Ai @g11 (Ai @ax (decide_eq_false bc)))) ?_;refine wK fun K7 wu=>?_;refine jF ?_;refine aC ?_;simp only [az,aw,if_true];obtain rfl : i = q3.1:=(by omega);rw [← e4] at hx J;rw [← q4l] at hx;exact h2 _ _ _ g0 g2 g3 hx J
 clear gE;refine jT fun K hK=>?_;refine ad (rY _ p st (by rw [AS.ae _ pM]; exact h)) ?_;rintro r s1 ⟨rfl,rfl⟩;rw [← e1];simp only [↓bI,↓bp,bL,↓bd,↓aS,cZ,cV,aL,aO,aD,aG,List.any_cons,List.any_nil,DX,Nat.reduceBEq,↓DN,Qa,Qb,Qc,Qd,Qe,Qf,Qg,Qh,reduceCtorEq,↓reduceIte,Na,Nb,Nc,Nk,Nf,Ng,Nh,Za,Zb,Zc,TT];refine ad (Dw _ p _ 32 (by have:=l1; omega) (AS.aa _ _ _)) ?_;rintro r s1 ⟨rfl,rfl⟩;rw [← e2];simp only [↓bI,↓bp,bL,↓bd,↓aS,cZ,cV,aL,aO,aD,aG,List.any_cons,List.any_nil,DX,Nat.reduceBEq,↓DN,Qa,Qb,Qc,Qd,Qe,Qf,Qg,Qh,reduceCtorEq,↓reduceIte,Na,Nb,Nc,Nk,Nf,Ng,Nh,Za,Zb,Zc,TT];intro o3 oY;have FR : o3≠p:=by
  rintro rfl;simp at oY
 have l6 : o3≠o2:=by
  rintro rfl;simp [pM.symm] at oY
 have zL : s.aq o3 = none:=(by simpa [FR,l6] using oY);refine hK _ _ (h1 _ _ o3 (by simp only [aF,br,Nc,↓reduceIte,List.getD_cons_zero]) rfl rfl ?_);refine ⟨AS.aB (AS.aB (AS.aB (AS.qv s p) (AS.cj iR) _) (AS.ng _ _) _) (AS.cj zL) _,?_,?_,AS.aa _ _ _,iR,zL,pM,FR.symm,l6.symm⟩
 ·rw [AS.ae _ FR.symm,AS.aa]
 ·rw [AS.ae _ l6.symm,AS.ae _ pM.symm,AS.aa,hz]
theorem tL (s : AS) (p : Nat) (st : aX) (hl : st.1.length≤2 ^ 44) (h : s.aq p = some (cI st)) :
  ah prog Γ 37 [.ptr p 0] s (fun r s'=>r = .agg (iI st).1.cells∧s' = s.set p (cI (iI st).2)):=by
 refine ab func37 rfl ntmps37 results37 (by simp) ?_;obtain ⟨q1,e1⟩ : ∃ q,q = bm 8 st:=⟨_,rfl⟩;obtain ⟨q2,e2⟩ : ∃ q,q = bq 1 32 q1.2:=⟨_,rfl⟩;obtain ⟨q3,e3⟩ : ∃ q,q = bm 1 q2.2:=⟨_,rfl⟩;obtain ⟨q4,e4⟩ : ∃ q,q = cT dw q3.1 q3.2:=⟨_,rfl⟩;have l1 : q1.2.1.length≤2 ^ 44:=(by rw [e1]; exact Nat.le_trans (cF _ _) hl);have l2 : q2.2.1.length≤2 ^ 44:=(by rw [e2]; exact Nat.le_trans (pE _ _ _).2 l1);have l3 : q3.2.1.length≤2 ^ 44:=(by rw [e3]; exact Nat.le_trans (cF _ _) l2);have k3 : q3.1 < 256:=(by rw [e3]; exact jm _);have NC : iI st = (if q4.2.2 = 0 then ⟨q1.1,q2.1,q4.1⟩ else zO,q4.2):=(by subst e4 e3 e2 e1; rfl);have q4l : q4.1.length = q3.1:=(by rw [e4,fS]);refine jQ fun K hK=>?_;intro o2 iR;have pM:=ud h iR;refine hK _ _ ?_;clear hK K;obtain ⟨z,hz⟩ : ∃ z : List AV,z = [.v (.int .u64 0),.v (.slice none 0 0),.v (.slice none 0 0)]:=⟨_,rfl⟩;refine wK fun K1 gE=>?_;have h1 : ∀ (E : Env) (s1 : AS) (o3 : Nat) (pb : AV),pb.aA (aj q2.1 .any)→E 0 = .ptr p 0→E 2 = .ptr o2 0→E 3 = .ptr o3 0→qD s s1 p o2 o3 (cI q2.2) z [.v (.int .u64 q1.1),pb,.v (.slice none 0 0)]→K1 E s1:=by
  intro E s1 o3 pb hpb g0 g2 g3 J;refine gE _ _ ?_;clear gE K1;refine kX (AS.jj J.var (.cons (AV.aA.refl _) (.cons hpb (.cons (AV.aA.refl _) .nil)))) ?_;replace J:=J.nX [.v (.int .u64 q1.1),aj q2.1 .any,.v (.slice none 0 0)];generalize s1.set o3 [.v (.int .u64 q1.1),aj q2.1 .any,.v (.slice none 0 0)] = s1 at *
  clear hpb;refine jS @g0 fun K hK=>?_;refine ad (fQ _ p _ 1 (by omega) (by omega) J.xx) ?_;rintro r s2 ⟨rfl,rfl⟩;rw [← e3];have J2:=J.gp (cI q3.2);clear J;generalize s1.set p (cI q3.2) = s2 at *
  refine jV (yt (show q3.1 < 2 ^ 62 by omega)) hK ?_;clear hK K;refine wK fun K2 aW=>?_;have h2 : ∀ (E : Env) (s1 : AS) (x : AV),E 0 = .ptr p 0→E 2 = .ptr o2 0→E 3 = .ptr o3 0→cO 2 s s1 x q4.1.length (aK aM.cells q4.1)→qD s s1 p o2 o3 (cI q4.2) z [.v (.int .u64 q1.1),aj q2.1 .any,x]→K2 E s1:=by
   clear J2 g0 g2 g3 E s1;intro E s1 x g0 g2 g3 hx J;refine aW _ _ ?_;clear aW K2;have jr:=J.res;have jv:=J.var;have jd:=J.d;have ND:=J.d.symm;have ox:=hx.one;have wx:=hx.aA;simp only [AV.one] at ox;rw [hz] at jr;refine wK fun K6 kn=>?_;have je : s1.aq p = some [.v (.string ⟨q4.2.1.toArray⟩),.v (.int .i64 q4.2.2)]:=J.xx;by_cases he : q4.2.2 = 0
   ·rw [he] at je;refine jB (Ai @g0 (Ai @je (eU 0 rfl))) ?_;refine jF ?_;refine ag ?_;refine kn _ _ ?_;clear kn K6;refine jB (Ai @g3 (Ai @g2 (Ai @jv (Ai @jr (Ai @jd (Ai @ND @ox)))))) ?_;refine a7 ?_;refine ch (o:=o2) (off:=0) g2 (AS.aa _ _ _) (by rw [T.Li]; decide) (by simp only [↓DN,Qa,Qb,Qc,Qd,Qe,Qf,Qg,Qh,reduceCtorEq,↓reduceIte,Na,Nb,Nc,Nk,Nf,Ng,Nh,Za,Zb,Zc,TT]; rfl) ?_;rw [NC,if_pos he];exact ⟨_,_,Co wx,(J.pO _).out,rfl,rfl⟩
   ·refine jB (Ai @g0 (Ai @je (fL _ he))) ?_;refine jE ?_;refine jB (Ai @g3 (Ai @g2 (Ai @jv (Ai @jr (Ai @jd @ND))))) ?_;refine a7 ?_;try simp only [az,aw]
    refine ch (o:=o2) (off:=0) g2 (AS.aa _ _ _) (by rw [T.Li]; decide) (by simp only [↓DN,Qa,Qb,Qc,Qd,Qe,Qf,Qg,Qh,reduceCtorEq,↓reduceIte,Na,Nb,Nc,Nk,Nf,Ng,Nh,Za,Zb,Zc,TT]; rfl) ?_;rw [NC,if_neg he];exact ⟨_,_,wA,(J.pO _).out,rfl,rfl⟩
  clear aW;refine jA ?_;refine al ?_;refine aE (fun E s2=>∃ (i : Nat) (x : AV),i≤q3.1∧E 5 = .v (.int .i64 i)∧E 4 = .v (.int .i64 q3.1)∧E 0 = .ptr p 0∧E 2 = .ptr o2 0∧E 3 = .ptr o3 0∧cO 2 s s2 x i (aK aM.cells (cT dw i q3.2).1) ∧
    qD s s2 p o2 o3 (cI (cT dw i q3.2).2) z [.v (.int .u64 q1.1),aj q2.1 .any,x])
   (fun E _=>match E 5 with | .v (.int _ i)=>q3.1 - i.toNat | _=>0) ?_ ?_
  ·exact ⟨0,_,Nat.zero_le _,rfl,rfl,g0,g2,g3,cO.nil _ _ _,J2⟩
  ·clear J2 g0 g2 g3 s2;rintro E1 s4 ⟨i,x,hi,g5,g4,g0,g2,g3,hx,J⟩ -
   refine wK fun K7 wu=>?_;by_cases bc : i < q3.1
   ·refine jB (Ai @g5 (Ai @g4 (Ai @ax (decide_eq_true bc)))) ?_;refine jE ?_;refine ag ?_;refine wu _ _ ?_;clear wu K7;refine wK fun K7 wu=>?_;refine al ?_;have dU : ∀ (E2 : Env) (s5 : AS) (x1 x2 : AV),x1.aA x2→E2 5 = .v (.int .i64 i)→E2 4 = .v (.int .i64 q3.1)→E2 0 = .ptr p 0→E2 2 = .ptr o2 0→E2 3 = .ptr o3 0→cO 2 s s5 x2 (i + 1) (aK aM.cells (cT dw (i + 1) q3.2).1) →
      qD s s5 p o2 o3 (cI (cT dw (i + 1) q3.2).2) z [.v (.int .u64 q1.1),aj q2.1 .any,x1]→K7 E2 s5:=by
     intro E2 s5 x1 x2 hw f5 f4 f0 f2 f3 fx fJ;refine wu _ _ ?_;clear wu K7;refine kX (AS.jj fJ.var (.cons (AV.aA.refl _) (.cons (AV.aA.refl _) (.cons hw .nil)))) ?_;replace fJ:=fJ.nX [.v (.int .u64 q1.1),aj q2.1 .any,x2];replace fx : cO 2 s (s5.set o3 [.v (.int .u64 q1.1),aj q2.1 .any,x2]) x2 (i + 1) (aK aM.cells (cT dw (i + 1) q3.2).1):=fx;generalize s5.set o3 [.v (.int .u64 q1.1),aj q2.1 .any,x2] = s6 at *
     refine jD (Ai @f5 (eE i (by omega))) ?_;refine ⟨⟨i + 1,x2,by omega,rfl,f4,f0,f2,f3,fx,fJ⟩,?_⟩;simp only [g5,aF,↓reduceIte];omega
    clear wu;have hSt : ∀ n,(cT dw n q3.2).2.1.length≤2 ^ 44:=fun n=>Nat.le_trans (lg zR _ _) l3;obtain ⟨NQ,DS⟩ : ∃ q,q = (cT dw i q3.2).2:=⟨_,rfl⟩;have li : NQ.1.length≤2 ^ 44:=(by rw [DS]; exact hSt i);have qh : (cT dw (i + 1) q3.2) = ((cT dw i q3.2).1 ++ [(dw NQ).1],(dw NQ).2):=(by rw [DS]; rfl);rw [qh] at dU;rw [← DS] at J;obtain ⟨L,hL⟩ : ∃ q,q = (cT dw i q3.2).1:=⟨_,rfl⟩;have Uw : L.length = i:=(by rw [hL,fS]);rw [← hL] at hx dU;clear qh hSt hL DS;obtain ⟨qa,ea⟩ : ∃ q,q = bm 8 NQ:=⟨_,rfl⟩;obtain ⟨qb,eb⟩ : ∃ q,q = bm 1 qa.2:=⟨_,rfl⟩;obtain ⟨qc,ec⟩ : ∃ q,q = cT di qb.1 qb.2:=⟨_,rfl⟩;have la : qa.2.1.length≤2 ^ 44:=(by rw [ea]; exact Nat.le_trans (cF _ _) li);have lb : qb.2.1.length≤2 ^ 44:=(by rw [eb]; exact Nat.le_trans (cF _ _) la);have kb : qb.1 < 256:=(by rw [eb]; exact jm _);have gy : qc.1.length = qb.1:=(by rw [ec,fS]);have ir : dw NQ = (⟨qa.1,qc.1⟩,qc.2):=(by subst ec eb ea; rfl);rw [ir] at dU;simp only at dU;clear ir;refine jS @g0 fun K hK=>?_;refine ad (fQ _ p _ 8 (by omega) (by omega) J.xx) ?_;rintro r s5 ⟨rfl,rfl⟩;rw [← ea];have J5:=J.gp (cI qa.2);have hx5 : cO 2 s (s4.set p (cI qa.2)) x i (aK aM.cells L):=hx;generalize s4.set p (cI qa.2) = s5 at *
    refine jM ?_;intro o4 zq;have J6:=J5.Hr zq [.v (.int .u64 qa.1),.v (.slice none 0 0)];have hx6 : cO 2 s (s5.set o4 [.v (.int .u64 qa.1),.v (.slice none 0 0)]) x i (aK aM.cells L):=hx5;have Vr : ∀ t,(s5.set o4 [.v (.int .u64 qa.1),.v (.slice none 0 0)]).own t = none→s.own t = none:=fun t h=>J6.rd.iv h;clear J5 hx5 hx J;refine hK _ _ ?_;clear hK K;generalize s5.set o4 [.v (.int .u64 qa.1),.v (.slice none 0 0)] = s6 at *
    refine jS @g0 fun K hK=>?_;refine ad (fQ _ p _ 1 (by omega) (by omega) J6.rd.xx) ?_;rintro r s7 ⟨rfl,rfl⟩;rw [← eb];have J7:=J6.gp (cI qb.2);refine jV (yt (show qb.1 < 2 ^ 62 by omega)) hK ?_;clear hK K;refine wK fun K8 Ux=>?_;have h8 : ∀ (E : Env) (s7 : AS) (y : AV),E 5 = .v (.int .i64 i)→E 4 = .v (.int .i64 q3.1)→E 0 = .ptr p 0→E 2 = .ptr o2 0→E 3 = .ptr o3 0→E 6 = .ptr o4 0→cO 2 s s7 x i (aK aM.cells L)→cO 2 s6 s7 y qc.1.length (aK aY.cells qc.1) →
      Da s s7 p o2 o3 o4 (cI qc.2) z [.v (.int .u64 q1.1),aj q2.1 .any,x] [.v (.int .u64 qa.1),y]→K8 E s7:=by
     clear J7 J6 hx6 g5 g4 g0 g2 g3;intro E s7 y g5 g4 g0 g2 g3 g6 hx hy J;refine Ux _ _ ?_;clear Ux K8;have jv:=J.rd.var;have jo:=J.obj;have jd3:=J.d3;have NR:=J.d3.symm;have oy:=hy.one;have wy:=hy.aA;simp only [AV.one] at oy;have hwS : eL.aA [.v (.int .u64 qa.1),y] (aM.cells ⟨qa.1,qc.1⟩):=.cons (AV.aA.refl _) (.cons wy .nil);have JN : aK aM.cells (L ++ [⟨qa.1,qc.1⟩]) = aK aM.cells L ++ aM.cells ⟨qa.1,qc.1⟩:=pT _ _;rcases hx with ⟨rfl,ic,BT⟩ | ⟨t,e,rfl,ht,gM⟩
     ·refine wE fun K hK=>?_;simp only [↓DN,Qa,Qb,Qc,Qd,Qe,Qf,Qg,Qh,reduceCtorEq,↓reduceIte,Na,Nb,Nc,Nk,Nf,Ng,Nh,Za,Zb,Zc,TT,g3,g6,jv,jo,jd3,NR,oy,bZ,kj];intro t ht;refine hK _ _ ?_;clear hK K;have gM:=J.rd.iv ht;have Uy : (aK aM.cells (L ++ [⟨qa.1,qc.1⟩])) = aM.cells ⟨qa.1,qc.1⟩:=(by rw [JN,BT]; rfl);refine dU _ _ _ (.sl 2 (i + 1) (aK aM.cells (L ++ [⟨qa.1,qc.1⟩])) (.own t 0)) ?_ g5 g4 g0 g2 g3 ?_ ((J.rd.bo gM 0).nX _)
      ·rw [Uy,ic];exact AV.gF hwS
      ·exact .inr ⟨t,0,rfl,by simp [AS.set,AS.bo],gM⟩
     ·refine jU (Ai @g3 (Ai @g6 (Ai @jv (Ai @jo (Ai @jd3 (Ai @NR (Ai @oy (Ai @ht @kj)))))))) fun K hK=>?_;refine ⟨by omega,by omega,?_⟩;refine hK _ _ ?_;clear hK K;refine dU _ _ _ (.sl 2 (i + 1) (aK aM.cells (L ++ [⟨qa.1,qc.1⟩])) (.own t (e + 1))) ?_ g5 g4 g0 g2 g3 ?_ ((J.rd.bo gM (e + 1)).nX _)
      ·rw [JN];exact AV.gF (eL.aA.append (eL.aA.refl _) hwS)
      ·exact .inr ⟨t,e + 1,rfl,by simp [AS.set,AS.bo],gM⟩
    clear Ux dU;refine jA ?_;refine al ?_;refine aE (fun E s8=>∃ (j : Nat) (y : AV),j≤qb.1∧E 8 = .v (.int .i64 j)∧E 7 = .v (.int .i64 qb.1)∧E 5 = .v (.int .i64 i)∧E 4 = .v (.int .i64 q3.1)∧E 0 = .ptr p 0∧E 2 = .ptr o2 0∧E 3 = .ptr o3 0∧E 6 = .ptr o4 0 ∧
      (∀ t e,s6.own t = some e→s8.own t = some e)∧cO 2 s6 s8 y j (aK aY.cells (cT di j qb.2).1)∧Da s s8 p o2 o3 o4 (cI (cT di j qb.2).2) z [.v (.int .u64 q1.1),aj q2.1 .any,x] [.v (.int .u64 qa.1),y])
     (fun E _=>match E 8 with | .v (.int _ j)=>qb.1 - j.toNat | _=>0) ?_ ?_
    ·exact ⟨0,_,Nat.zero_le _,rfl,rfl,g5,g4,g0,g2,g3,rfl,fun t e h=>h,cO.nil _ _ _,J7⟩
    ·clear J7 J6 g5 g4 g0 g2 g3;rintro E2 s8 ⟨j,y,hj,g8,g7,g5,g4,g0,g2,g3,g6,vp,hy,J⟩ -
     refine wK fun K9 Jo=>?_;by_cases gQ : j < qb.1
     ·refine jB (Ai @g8 (Ai @g7 (Ai @ax (decide_eq_true gQ)))) ?_;refine jE ?_;refine ag ?_;refine Jo _ _ ?_;clear Jo K9;refine wK fun K9 Jo=>?_;refine al ?_;have dU : ∀ (E3 : Env) (s9 : AS) (y1 y2 : AV),y1.aA y2→E3 8 = .v (.int .i64 j)→E3 7 = .v (.int .i64 qb.1)→E3 5 = .v (.int .i64 i)→E3 4 = .v (.int .i64 q3.1)→E3 0 = .ptr p 0→E3 2 = .ptr o2 0→E3 3 = .ptr o3 0→E3 6 = .ptr o4 0 →
        (∀ t e,s6.own t = some e→s9.own t = some e)→cO 2 s6 s9 y2 (j + 1) (aK aY.cells (cT di (j + 1) qb.2).1)→Da s s9 p o2 o3 o4 (cI (cT di (j + 1) qb.2).2) z [.v (.int .u64 q1.1),aj q2.1 .any,x] [.v (.int .u64 qa.1),y1]→K9 E3 s9:=by
       intro E3 s9 y1 y2 hw f8 f7 f5 f4 f0 f2 f3 f6 fo fy fJ;refine Jo _ _ ?_;clear Jo K9;refine kX (AS.jj fJ.obj (.cons (AV.aA.refl _) (.cons hw .nil))) ?_;replace fJ:=fJ.setObj [.v (.int .u64 qa.1),y2];replace fy : cO 2 s6 (s9.set o4 [.v (.int .u64 qa.1),y2]) y2 (j + 1) (aK aY.cells (cT di (j + 1) qb.2).1):=fy;replace fo : ∀ t e,s6.own t = some e→(s9.set o4 [.v (.int .u64 qa.1),y2]).own t = some e:=fo;generalize s9.set o4 [.v (.int .u64 qa.1),y2] = OS at *
       refine jD (Ai @f8 (eE j (by omega))) ?_;refine ⟨⟨j + 1,y2,by omega,rfl,f7,f5,f4,f0,f2,f3,f6,fo,fy,fJ⟩,?_⟩;simp only [g8,aF,↓reduceIte];omega
      clear Jo;have hlj : (cT di j qb.2).2.1.length≤2 ^ 44:=Nat.le_trans (lg sn _ _) lb;have qh : (cT di (j + 1) qb.2) = ((cT di j qb.2).1 ++ [(di (cT di j qb.2).2).1],(di (cT di j qb.2).2).2):=rfl;rw [qh] at dU;have hMl : (cT di j qb.2).1.length = j:=fS _ _;generalize (cT di j qb.2).1 = M at *
      generalize (cT di j qb.2).2 = DU at *
      simp only [pT] at dU;refine jS @g0 fun K hK=>?_;refine ad (zM _ p DU 48 hlj J.rd.xx) ?_;rintro r s9 ⟨rfl,rfl⟩;refine jM ?_;intro o5 Cd;have J9:=(J.gp (cI (et 48 DU).2)).fresh Cd [.v (.int .u64 (et 48 DU).1.1),.v (.string ⟨(et 48 DU).1.2.toArray⟩)];have h45 : o4≠o5:=Fj (J.gp (cI (et 48 DU).2)).obj Cd;have h5:=AS.aa (s8.set p (cI (et 48 DU).2)) o5 [.v (.int .u64 (et 48 DU).1.1),.v (.string ⟨(et 48 DU).1.2.toArray⟩)];have Jp : ∀ t,((s8.set p (cI (et 48 DU).2)).set o5 [.v (.int .u64 (et 48 DU).1.1),.v (.string ⟨(et 48 DU).1.2.toArray⟩)]).own t = s8.own t:=fun t=>rfl;refine hK _ _ ?_;clear hK K J;generalize (s8.set p (cI (et 48 DU).2)).set o5 [.v (.int .u64 (et 48 DU).1.1),.v (.string ⟨(et 48 DU).1.2.toArray⟩)] = s9 at *
      have jo:=J9.obj;have Fi:=h45.symm;rcases hy with ⟨rfl,hj0,hM0⟩ | ⟨t,e,rfl,ht,gM⟩
      ·refine wE fun K hK=>?_;simp only [↓DN,Qa,Qb,Qc,Qd,Qe,Qf,Qg,Qh,reduceCtorEq,↓reduceIte,Na,Nb,Nc,Nk,Nf,Ng,Nh,Za,Zb,Zc,TT,g6,jo,h5,h45,Fi,kj,bZ];intro t ht;have gM : s.own t = none:=J9.rd.iv ht;have Uz : s6.own t = none:=by
        cases e6 : s6.own t with
        | none=>rfl
        | some e=>have:=vp t e e6; rw [← Jp t,ht] at this; cases this
       refine hK _ _ ?_;clear hK K;refine dU _ _ _ (.sl 2 (j + 1) (aK aY.cells M ++ aY.cells (di DU).1) (.own t 0)) ?_ g8 g7 g5 g4 g0 g2 g3 g6 ?_ ?_ ((J9.bo gM 0).setObj _)
       ·rw [hM0,hj0];exact AV.gF (.cons (AV.aA.refl _) (.cons AV.bJ .nil))
       ·intro t' e' h';have:=C9 h' Uz;simp only [AS.set,AS.bo,aF,this,if_false];rw [Jp];exact vp t' e' h'
       ·exact .inr ⟨t,0,rfl,by simp [AS.set,AS.bo],Uz⟩
      ·have UA : s.own t = none:=Vr t gM;rw [← Jp] at ht;refine jU (Ai @g6 (Ai @jo (Ai @h5 (Ai @h45 (Ai @Fi (Ai @kj @ht)))))) fun K hK=>?_;refine ⟨by omega,by omega,?_⟩;refine hK _ _ ?_;clear hK K;refine dU _ _ _ (.sl 2 (j + 1) (aK aY.cells M ++ aY.cells (di DU).1) (.own t (e + 1))) ?_ g8 g7 g5 g4 g0 g2 g3 g6 ?_ ?_ ((J9.bo UA (e + 1)).setObj _)
       ·exact AV.gF (eL.aA.append (eL.aA.refl _) (.cons (AV.aA.refl _) (.cons AV.bJ .nil)))
       ·intro t' e' h';have:=C9 h' gM;simp only [AS.set,AS.bo,aF,this,if_false];rw [Jp];exact vp t' e' h'
       ·exact .inr ⟨t,e + 1,rfl,by simp [AS.set,AS.bo],gM⟩
     ·refine jB (Ai @g8 (Ai @g7 (Ai @ax (decide_eq_false gQ)))) ?_;refine jF ?_;refine aC ?_;simp only [az,aw,if_true];obtain rfl : j = qb.1:=(by omega);rw [← ec] at hy J;rw [← gy] at hy;exact h8 _ _ _ g5 g4 g0 g2 g3 g6 (hx6.own fun t e h _=>vp t e h) hy J
   ·refine jB (Ai @g5 (Ai @g4 (Ai @ax (decide_eq_false bc)))) ?_;refine jF ?_;refine aC ?_;simp only [az,aw,if_true];obtain rfl : i = q3.1:=(by omega);rw [← e4] at hx J;rw [← q4l] at hx;exact h2 _ _ _ g0 g2 g3 hx J
 clear gE;refine jT fun K hK=>?_;refine ad (fQ _ p st 8 (by omega) (by omega) (by rw [AS.ae _ pM]; exact h)) ?_;rintro r s1 ⟨rfl,rfl⟩;rw [← e1];refine jM ?_;refine ad (tR _ p _ 1 32 (by omega) (by have:=l1; omega) (AS.aa _ _ _)) ?_;rintro r s1 ⟨rfl,rfl⟩;rw [← e2];refine jM ?_;intro o3 oY;have FR : o3≠p:=by
  rintro rfl;simp at oY
 have l6 : o3≠o2:=by
  rintro rfl;simp [pM.symm] at oY
 have zL : s.aq o3 = none:=(by simpa [FR,l6] using oY);refine hK _ _ (h1 _ _ o3 (.sl 1 q2.1.length (q2.1.map ai) .no) AV.bJ (by simp only [aF,br,Nc,↓reduceIte,List.getD_cons_zero]) rfl rfl ?_);refine ⟨AS.aB (AS.aB (AS.aB (AS.qv s p) (AS.cj iR) _) (AS.ng _ _) _) (AS.cj zL) _,?_,?_,AS.aa _ _ _,iR,zL,pM,FR.symm,l6.symm⟩
 ·rw [AS.ae _ FR.symm,AS.aa]
 ·rw [AS.ae _ l6.symm,AS.ae _ pM.symm,AS.aa,hz]
end Go.Proofs.YtbiefppedlodiaaGreatDoor
namespace Go.AM
theorem zS {α : Type} {c : Prop} [Decidable c] {x : α} {y : Option α} (h : (if c then some x else y) = none) : ¬ c∧y = none:=by
  split at h
  · cases h
  · exact ⟨by assumption,h⟩
def zT (P : Int→Bool) (acc : List Int) (f : Int) : List Int:=if P f = true∧f ∉ acc then acc ++ [f] else acc
def iZ (P : Int→Bool) (S : List Int) : List Int:=S.foldl (zT P) []
def KN (P : Int→Bool) (fresh : List Int) (n : Nat) : List Int:=((List.range n).map fun k=>((k : Nat) : Int)).filter fun x=>decide (x ∈ fresh) && P x
theorem KO (P : Int→Bool) (S : List Int) : (iZ P S).length≤S.length:=by
  have : ∀ (S acc : List Int),(S.foldl (zT P) acc).length≤acc.length + S.length:=by
    intro S;induction S with
    | nil=>simp
    | cons f S ih =>
      intro acc;rw [List.foldl_cons];have h1:=ih (zT P acc f);have h2 : (zT P acc f).length≤acc.length + 1:=(by unfold zT; split <;> simp);simp only [List.length_cons];omega
  simpa [iZ] using this S []
theorem H8 (P : Int→Bool) (S : List Int) (f : Int) : iZ P (S ++ [f]) = zT P (iZ P S) f:=by simp [iZ]
theorem zU (P : Int→Bool) : ∀ (S acc : List Int),S.Pairwise (·≤·)→acc.Pairwise (· < ·)→(∀ a ∈ acc,∀ b ∈ S,a≤b) →
    (S.foldl (zT P) acc).Pairwise (· < ·)∧∀ x,x ∈ S.foldl (zT P) acc↔x ∈ acc∨(x ∈ S∧P x = true)
  | [],acc,_,h2,_=>by simp [h2]
  | f :: S,acc,h1,h2,h3=>by
    rw [List.pairwise_cons] at h1;rw [List.foldl_cons];by_cases hc : P f = true∧f ∉ acc
    · have e : zT P acc f = acc ++ [f]:=if_pos hc;rw [e];obtain ⟨i1,i2⟩:=zU P S (acc ++ [f]) h1.2 (by
        rw [List.pairwise_append];refine ⟨h2,by simp,fun a ha b hb=>?_⟩;simp only [List.mem_singleton] at hb;subst hb;have:=h3 a ha b (by simp);have : a≠b:=fun e=>hc.2 (e ▸ ha);omega) (by
        intro a ha b hb;simp only [List.mem_append,List.mem_singleton] at ha;rcases ha with ha | rfl
        · exact h3 a ha b (by simp [hb])
        · exact h1.1 b hb)
      refine ⟨i1,fun x=>?_⟩;rw [i2];simp only [List.mem_append,List.mem_cons,List.not_mem_nil,or_false];constructor
      · rintro ((a | rfl) | ⟨a,b⟩)
        · exact .inl a
        · exact .inr ⟨.inl rfl,hc.1⟩
        · exact .inr ⟨.inr a,b⟩
      · rintro (a | ⟨rfl | a,b⟩)
        · exact .inl (.inl a)
        · exact .inl (.inr rfl)
        · exact .inr ⟨a,b⟩
    · have e : zT P acc f = acc:=if_neg hc;rw [e];obtain ⟨i1,i2⟩:=zU P S acc h1.2 h2 (fun a ha b hb=>h3 a ha b (by simp [hb]));refine ⟨i1,fun x=>?_⟩;rw [i2];simp only [List.mem_cons];constructor
      · rintro (a | ⟨a,b⟩)
        · exact .inl a
        · exact .inr ⟨.inr a,b⟩
      · rintro (a | ⟨rfl | a,b⟩)
        · exact .inl a
        · by_cases hm : x ∈ acc
          · exact .inl hm
          · exact absurd ⟨b,hm⟩ hc
        · exact .inr ⟨a,b⟩
theorem NS (P : Int→Bool) (S : List Int) (h : S.Pairwise (·≤·)) : (iZ P S).Pairwise (· < ·)∧∀ x,x ∈ iZ P S↔x ∈ S∧P x = true:=by
  have:=zU P S [] h (by simp) (by simp);simpa [iZ] using this
theorem uf : ∀ {a b : List Int},a.Pairwise (· < ·)→b.Pairwise (· < ·)→(∀ x,x ∈ a↔x ∈ b)→a = b
  | [],b,_,_,h=>by
    cases b with
    | nil=>rfl
    | cons y b=>exact absurd ((h y).2 (by simp)) (by simp)
  | x :: a,[],_,_,h=>absurd ((h x).1 (by simp)) (by simp)
  | x :: a,y :: b,h1,h2,h=>by
    rw [List.pairwise_cons] at h1 h2;have Wg : x = y:=by
      have hx:=(h x).1 (by simp);have hy:=(h y).2 (by simp);simp only [List.mem_cons] at hx hy;rcases hx with rfl | hx
      · rfl
      · rcases hy with rfl | hy
        · rfl
        · have:=h1.1 y hy;have:=h2.1 x hx;omega
    subst Wg;rw [uf h1.2 h2.2 fun z=>?_];have:=h z;simp only [List.mem_cons] at this;constructor
    · intro hz;rcases this.1 (.inr hz) with rfl | k
      · have:=h1.1 z hz; omega
      · exact k
    · intro hz;rcases this.2 (.inr hz) with rfl | k
      · have:=h2.1 z hz; omega
      · exact k
theorem QN (P : Int→Bool) (fresh : List Int) (n : Nat) (hP : ∀ x,P x = true→0≤x∧x < (n : Int)) : iZ P (fresh.mergeSort fun x y=>decide (x≤y)) = KN P fresh n:=by
  have hs : (fresh.mergeSort fun x y=>decide (x≤y)).Pairwise (·≤·):=by
    have:=List.pairwise_mergeSort (le:=fun x y : Int=>decide (x≤y)) (by intro a b c; simp; omega) (by intro a b; simp; omega) fresh;simpa using this
  obtain ⟨h1,h2⟩:=NS P _ hs;refine uf h1 ?_ fun x=>?_
  · unfold KN;refine List.Pairwise.filter _ ?_;rw [List.pairwise_map];exact (List.pairwise_lt_range).imp fun h=>by omega
  · rw [h2];unfold KN;simp only [List.mem_filter,List.mem_map,List.mem_range,Bool.and_eq_true,decide_eq_true_eq,List.mem_mergeSort];constructor
    · rintro ⟨a,b⟩;have:=hP x b;exact ⟨⟨x.toNat,by omega,by omega⟩,a,b⟩
    · rintro ⟨-,a,b⟩;exact ⟨a,b⟩
end Go.AM
namespace Go.Proofs.YtbiefppedlodiaaGreatDoor
open Go Go.AM Go.Proofs Tryz
variable {Γ : Nat→List AV}
def FU (s0 s : AS) (r : AV) (T : List ao) : Prop:=∃ O cap rest,r = .gw O 0 5 T.length cap∧s.aq O = some (aK ao.cells T ++ rest)∧T.length≤cap∧s0.aq O = none∧s0.le s
theorem DV (t : List ao) (h0 : t.length≠0) (ht : t.length≤2 ^ 30) (hw : ∀ n ∈ t,p5 n) (s : AS) : ah prog Γ 109 [bA t] s (fun r s'=>FU s s' r t):=by
  refine ah.settle (Bc t ht hw s) ?_;rintro r s' ⟨TS,hT,hO⟩;have hl : TS.length = t.length:=(by rw [← hT,List.length_map]);rcases hO.row with ⟨h1,_,_⟩ | ⟨O,cap,rest,rfl,hOb,gy,uS,Em,Ep⟩
  · exact absurd (hl ▸ h1) h0
  · obtain ⟨s1,k1,k2,k3⟩:=Kg (Γ:=Γ) (hO.PX O rfl) (.gw O 0 5 TS.length cap) TS [] s' hO.xs hO.le (hO.TK O rfl) (by simpa [aK] using hOb);rw [List.nil_append,hT] at k2;rw [hl] at k1 Em;exact ⟨_,_,by rw [hl]; exact k1,O,cap,rest,rfl,k2,Em,hO.PX O rfl,k3⟩
theorem Bd (l : List Int) (hl : l.length≤2 ^ 40) (s : AS) : ah prog Γ 111 [.qK 160 [.dq [.sl 1 l.length (l.map aV) .any]]] s (fun r s'=>r = aR (l.mergeSort fun x y=>decide (x≤y)) .any∧s' = s):=by
  have Ld:=Dd (Γ:=Γ) (l.map aV) l.length (by simp) hl;rw [List.map_map] at Ld;refine ah.forget (ah.settle (Dr (by kernel_rfl) Ld hl s) ?_ (R:=fun r s'=>r = aR (l.mergeSort fun x y=>decide (x≤y)) .any∧s.le s')) fun r s' ⟨h1,h2⟩=>⟨s,h2,h1,rfl⟩;rintro r s' ⟨qx,qL,ln,hle⟩;rcases qx with ⟨h0,_,_⟩ | ⟨o,cap,rest,rfl,ho,gy,uS,Em,Ep⟩
  · have e : (l.mergeSort fun x y=>decide (x≤y)) = []:=List.eq_nil_of_length_eq_zero h0;rw [qL e,e];exact ⟨_,_,cM.aA AV.aJ,rfl,hle⟩
  · exact ⟨_,_,cM.outer ho (by simp),rfl,AS.sN hle (ln o rfl)⟩
end Go.Proofs.YtbiefppedlodiaaGreatDoor
namespace Go.AM
theorem NT (P : Int→Bool) (fresh : List Int) (n : Nat) : (KN P fresh n).length≤n:=by
  unfold KN;refine Nat.le_trans (List.length_filter_le _ _) ?_;simp
theorem H9 {T : List ao} {u : Nat} (hu : u < T.length) (k : Nat) (p : List UInt8) (rest : List AV) :
    ((aK ao.cells T ++ rest).set (u * 5 + 2) (.v (.int .u64 k))).set (u * 5 + 3) (aj p .any) = aK ao.cells (T.set u { nd T u with key:=k,parent:=p }) ++ rest:=by
  have h0:=zC (c:=ao.cells) (k:=5) (fun n=>rfl) hu (nd T u) rest;have h1:=zC (c:=ao.cells) (k:=5) (fun n=>rfl) hu { nd T u with key:=k,parent:=p } rest;have hs : T.set u (nd T u) = T:=(by rw [yU hu]; exact List.set_getElem_self hu);rw [hs] at h0;rw [← h1];generalize aK ao.cells T ++ rest = R at h0;generalize nd T u = N at *
  obtain ⟨a,b,c,d,e⟩:=N;simp only [ao.cells,bn] at h0 ⊢;apply List.ext_getElem?;intro i;have hi:=congrArg (fun l=>l[i]?) h0;simp only [List.getElem?_set,List.length_set,Nat.add_assoc,Nat.reduceAdd] at hi ⊢;by_cases e3 : u * 5 + 3 = i
  · have e4 : ¬ u * 5 + 4 = i:=(by omega);simp only [if_pos e3,if_neg e4]
  · by_cases e2 : u * 5 + 2 = i
    · have e4 : ¬ u * 5 + 4 = i:=(by omega);simp only [if_neg e3,if_pos e2,if_neg e4]
    · simp only [if_neg e3,if_neg e2] at hi ⊢;exact hi.symm
end Go.AM
namespace Go.Proofs.YtbiefppedlodiaaGreatDoor
open Go Go.AM Go.Proofs Tryz
variable {Γ : Nat→List AV}
def kf (n : Nat) : AV:=.v (.int .u64 n)
def Fp (l : List Nat) : AV:=.sl 1 l.length (l.map kf) .any
def UB (t : List ao) (fresh : List Int) (up : Nat) : List Int:=KN (fun x=>mT up x && decide (l7 t x)) fresh (bj t)
def w8 (t : List ao) (leaf : Nat) (keys : List Nat) (fresh : List Int) : Nat→List ao × List UInt8
 | 0=>(t,[])
 | i + 1 =>
  let j:=(aH leaf (bj t)).length - 1 - i
  let up:=(aH leaf (bj t)).getD j 0
  let p:=w8 t leaf keys fresh i
  let b : ao:=⟨2,[],keys.getD j 0,p.2,UB t fresh up⟩
  (p.1.set up b,qH b (zz t (cC (nodeAt leaf (bj t) j))))
theorem lJ (t : List ao) (leaf : Nat) (keys : List Nat) (fresh : List Int) : ∀ i,(w8 t leaf keys fresh i).1.length = t.length
 | 0=>rfl
 | i + 1=>by simp only [w8,List.length_set]; exact lJ t leaf keys fresh i
def iW (t : List ao) (leaf key : Nat) (keys : List Nat) (fresh : List Int) : List ao :=
 let p:=w8 t leaf keys fresh (aH leaf (bj t)).length
 p.1.set (2 * leaf) { nd p.1 (2 * leaf) with key:=key,parent:=p.2 }
def xaz (s : AS) (t : List ao) (leaf : Nat) (keys : List Nat) (fresh : List Int) (O cap sr Cp ss : Nat) (rest : List AV) (i : Nat) (s' : AS) : Prop :=
 s.le s'∧s'.aq sr = some [.gw O 0 5 t.length cap]∧s'.aq Cp = some [aR (bw (cR leaf (bj t))) .any]∧s'.aq ss = some [aj (w8 t leaf keys fresh i).2 .any]∧s'.aq O = some (aK ao.cells (w8 t leaf keys fresh i).1 ++ rest)
theorem Be (ev : Γ 0 = ew Sha.H0) (ig : Γ 1 = Sha.K.map wV) (hG : Γ 3 = fM.map pg) (t : List ao) (ht : gG t) (MA : t.length≤2 ^ 30) (hw : ∀ n ∈ t,p5 n) (hr : bO t) (leaf : Nat) (hm : l7 t leaf)
  (key : Nat) (keys : List Nat) (hk : keys.length = (aH leaf (bj t)).length) (fresh : List Int) (hf : fresh.length≤2 ^ 40) (s : AS) :
  ah prog Γ 50 [bA t,.v (.int .i64 leaf),.v (.int .u64 key),Fp keys,aR fresh .any] s (fun r s'=>FU s s' r (iW t leaf key keys fresh)):=by
 refine yF func50 rfl ntmps50 results50 (by simp) ?_;have xd0 : bj t≠0:=hr.1;obtain ⟨dS,lT⟩ : Fit (bj t)∧t.length = 2 * bj t - 1:=by
  rcases dn (t:=t) with h | h
  ·exact absurd h xd0
  ·exact h
 have oW:=dS.le;have Jq : leaf < bj t:=by
  have:=hm.2.1;omega
 have vA:=fun s=>DV (Γ:=Γ) t (by omega) MA hw s;have fZ:=fun s=>iD (Γ:=Γ) hG t ht s;rw [if_pos hr] at fZ;have rm:=fun s=>kM (Γ:=Γ) hG leaf (bj t) dS Jq s;have GM:=fun s=>iE (Γ:=Γ) hG leaf (bj t) dS Jq s;unfold bA Fp aR at *
 refine qA ?_;intro K hK;refine jM ?_;intro o5 h5 o8 h8 o9 h9;refine hK _ _ ?_;clear hK K;refine C2 (d:=9) rfl h9 ?_;refine C2 (d:=8) rfl h8 ?_;refine C2 (d:=5) rfl h5 ?_;clear h5 h8 h9;refine qA ?_;intro K hK;refine jM ?_;refine ad (vA _) ?_;rintro r s1 ⟨O,cap,rest,rfl,hO,ib,Vo,sg⟩;refine jM ?_;intro sr h11;refine hK _ _ ?_;clear hK K;refine qA ?_;intro K hK;refine jM ?_;refine ad (fZ _) ?_;rintro r s2 ⟨rfl,rfl⟩;refine jR hK ?_;clear hK K;refine qA ?_;intro K hK;refine jM ?_;refine ad (rm _) ?_;rintro r s3 ⟨rfl,rfl⟩;refine jM ?_;refine ad (GM _) ?_;rintro r s4 ⟨rfl,rfl⟩;refine jM ?_;intro Cp h14;refine hK _ _ ?_;clear hK K;refine qA ?_;intro K hK;refine jM ?_;intro ss Ia;refine hK _ _ ?_;clear hK K;obtain ⟨NU,h14⟩:=zS h14;obtain ⟨NV,Ia⟩:=zS Ia;obtain ⟨Jr,Ia⟩:=zS Ia;have UC : O≠sr:=(fun e=>by rw [e,h11] at hO; cases hO);have xaA : O≠Cp:=(fun e=>by rw [e,h14] at hO; cases hO);have QO : O≠ss:=(fun e=>by rw [e,Ia] at hO; cases hO);have m11 : s.aq sr = none:=AS.le_none sg h11;have m14 : s.aq Cp = none:=AS.le_none sg h14;have Sc : s.aq ss = none:=AS.le_none sg Ia;have Vs : (bw (aH leaf (bj t))).length = (aH leaf (bj t)).length:=cJ _;have GF:=ni dS Jq;refine Kb (AS.jj (cs':=[aj [] .any]) (AS.aa _ _ _) (.cons AV.aJ .nil)) ?_;rw [AS.set_set];refine rf (by decide) ?_;intro K hK;refine jM ?_;refine ad (yQ _ _ _) ?_;rintro r s5 ⟨rfl,rfl⟩;refine jR hK ?_;clear hK K;refine ⟨157,_,_,fun i s'=>xaz s t leaf keys fresh O cap sr Cp ss rest i s',by simp only [aI,aF,Vs,Nc,↓reduceIte],by kernel_rfl,yR _ _ Vs (by omega),by simp,?_,?_,?_⟩
 ·refine ⟨AS.aB (AS.aB (AS.aB sg m11 _) m14 _) Sc _,?_,?_,AS.aa _ _ _,?_⟩
  ·rw [AS.ae _ (Ne.symm Jr),AS.ae _ (Ne.symm NU),AS.aa]
  ·rw [AS.ae _ (Ne.symm NV),AS.aa]; rfl
  ·rw [AS.ae _ QO,AS.ae _ xaA,AS.ae _ UC,hO]; rfl
 ·rintro i0 x s2 hx ⟨fC,O1,q14,Bf,qO⟩;obtain ⟨ic,rfl⟩ : i0 < (aH leaf (bj t)).length∧x = [aV (((aH leaf (bj t)).length - 1 - i0 : Nat) : Int),aV ((bw (aH leaf (bj t))).getD ((aH leaf (bj t)).length - 1 - i0) 0)]:=by
   rw [List.getElem?_map] at hx;cases hh : (List.range (aH leaf (bj t)).length)[i0]? with
   | none=>rw [hh] at hx; cases hx
   | some v =>
    rw [hh] at hx;obtain ⟨h1,h2⟩:=List.getElem?_eq_some_iff.1 hh;simp at h1 h2;subst h2;simp at hx;exact ⟨h1,hx.symm⟩
  simp only [Ay];have VJ : (aH leaf (bj t)).length - 1 - i0 < (aH leaf (bj t)).length:=(by omega);obtain ⟨j,hj⟩ : ∃ j,j = (aH leaf (bj t)).length - 1 - i0:=⟨_,rfl⟩;have hup : (bw (aH leaf (bj t))).getD j 0 = (((aH leaf (bj t)).getD j 0 : Nat) : Int):=by
   rw [← hj] at VJ;simp [bw,List.getD,VJ]
  rw [← hj] at VJ ⊢;rw [hup];obtain ⟨up,QP⟩ : ∃ up,up = (aH leaf (bj t)).getD j 0:=⟨_,rfl⟩;rw [← QP];simp only [aV];obtain ⟨par,UD⟩ : ∃ par,par = (w8 t leaf keys fresh i0).2:=⟨_,rfl⟩;obtain ⟨TZ,hTZ⟩ : ∃ TZ,TZ = (w8 t leaf keys fresh i0).1:=⟨_,rfl⟩;rw [← UD] at Bf;rw [← hTZ] at qO;have hkj : j < keys.length:=(by omega);have np : (List.take 1 (List.drop j (keys.map kf)))[0]? = some (AV.v (.int .u64 (keys.getD j 0 : Nat))):=by
   simp [List.getElem?_take,List.getD,hkj,kf]
  have dr : (0 : Int)≤((j : Nat) : Int):=(by omega);have bS : ((j : Nat) : Int) < ((keys.length : Nat) : Int):=(by omega);refine jA ?_;refine jC ?_;refine ⟨rfl,?_⟩;refine al ?_;unfold aj at Bf;refine ef T.mixed [(ss,[.sl 1 par.length (par.map ai) .any])] [6,7] [4] [] (by kernel_rfl) (by simp only [aD,aG,and_true]; simp [AS.set,aF,Bf]) ?_;intro K hK;simp only [↓bd,↓aS,cZ,cV,aL,aO,aD,aG,List.any_cons,List.any_nil,List.contains_cons,List.contains_nil,Nat.reduceBEq,Bool.or_false,Bool.or_true,Bool.or_self,Bool.false_or,↓DN,Qa,Qb,Qc,Qd,Qe,Qf,Qg,Qh,reduceCtorEq,↓reduceIte,Na,Nb,Nc,Nk,Nf,Ng,Nh,Za,Zb,Zc,TT,dr,bS,np,Bf];intro ob qx;have xaB : ¬ ss = ob:=(fun e=>by rw [← e,Bf] at qx; cases qx);simp only [if_neg xaB,true_and,and_true];refine hK _ _ ?_;clear hK K;refine kX (AS.jj (cs':=[.v (.int .i64 2),aj [] .any,.v (.int .u64 (keys.getD j 0 : Nat)),aj par .any,bZ]) (AS.aa _ _ _) (.cons (.refl _) (.cons AV.aJ (.cons (.refl _) (.cons (.refl _) (.cons (.refl _) .nil)))))) ?_;rw [AS.set_set];have hso:=AS.aa s2 ob [.v (.int .i64 2),aj [] .any,.v (.int .u64 (keys.getD j 0 : Nat)),aj par .any,bZ];have xaC : s2.le (s2.set ob [.v (.int .i64 2),aj [] .any,.v (.int .u64 (keys.getD j 0 : Nat)),aj par .any,bZ]):=AS.aB (AS.le.refl _) qx _;generalize s2.set ob [.v (.int .i64 2),aj [] .any,.v (.int .u64 (keys.getD j 0 : Nat)),aj par .any,bZ] = s3 at hso xaC ⊢;obtain ⟨P,hP⟩ : ∃ P : Int→Bool,P = fun x=>mT up x && decide (l7 t x):=⟨_,rfl⟩;obtain ⟨S,hS⟩ : ∃ S,S = fresh.mergeSort fun x y=>decide (x≤y):=⟨_,rfl⟩;have Sb : S.length≤2 ^ 40:=(by rw [hS]; simpa using hf);have hU : iZ P S = UB t fresh up:=by
   rw [hS,hP];refine QN _ _ _ fun x hx=>?_;simp only [Bool.and_eq_true,decide_eq_true_eq] at hx;obtain ⟨-,h1,h2,-⟩:=hx;exact ⟨h1,by omega⟩
  have NW:=fun s=>Bd (Γ:=Γ) fresh hf s;rw [← hS] at NW;have px:=fun f s=>lN (Γ:=Γ) t ht.1 f s;unfold bA at px;unfold aR at NW;refine wK fun K hK=>?_;refine jQ fun K hK=>?_;refine ad (Dc _ _ _) ?_;rintro r s4 ⟨rfl,rfl⟩;simp only [↓bI,↓bp,bL,↓bd,↓aS,cZ,cV,aL,aO,aD,aG,List.any_cons,List.any_nil,DX,Nat.reduceBEq,↓DN,Qa,Qb,Qc,Qd,Qe,Qf,Qg,Qh,reduceCtorEq,↓reduceIte,Na,Nb,Nc,Nk,Nf,Ng,Nh,Za,Zb,Zc,TT];refine ad (NW _) ?_;rintro r s5 ⟨rfl,rfl⟩;simp only [↓bI,↓bp,bL,↓bd,↓aS,cZ,cV,aL,aO,aD,aG,List.any_cons,List.any_nil,DX,Nat.reduceBEq,↓DN,Qa,Qb,Qc,Qd,Qe,Qf,Qg,Qh,reduceCtorEq,↓reduceIte,Na,Nb,Nc,Nk,Nf,Ng,Nh,Za,Zb,Zc,TT];refine hK _ _ ?_;clear hK K;refine al ?_;refine aE (fun E s'=>∃ (i : Nat) (x : AV),i≤S.length∧E 43 = .sl 1 S.length (S.map aV) .any∧E 44 = .v (.int .i64 S.length)∧E 45 = .v (.int .i64 i)∧E 5 = .dq [.sl 5 t.length (aK ao.cells t) .any]∧E 11 = .ptr sr 0∧E 14 = .ptr Cp 0∧E 15 = .ptr ss 0∧E 16 = .v (.int .i64 j)∧E 17 = .v (.int .i64 up)∧E 18 = .ptr ob 0 ∧
    s'.aq ob = some [.v (.int .i64 2),aj [] .any,.v (.int .u64 (keys.getD j 0 : Nat)),aj par .any,x]∧cO 1 s2 s' x (iZ P (S.take i)).length ((iZ P (S.take i)).map aV)∧s2.le s')
   (fun E _=>match E 45 with | .v (.int _ i)=>S.length - i.toNat | _=>0) ?_ ?_
  ·exact ⟨0,bZ,Nat.zero_le _,rfl,rfl,rfl,rfl,rfl,rfl,rfl,rfl,rfl,rfl,hso,by simpa [iZ] using cO.nil 1 s2 s5,xaC⟩
  ·rintro E1 s6 ⟨i,x,hi,VK,UE,QQ,e5,w9,VL,OY,Jb,UF,O2,A7,hx,nv⟩ -
   by_cases bc : i < S.length
   ·have kR : ((i : Nat) : Int) < ((S.length : Nat) : Int):=(by omega);have qM : (0 : Int)≤((i : Nat) : Int):=(by omega);have gn : (List.take 1 (List.drop i (S.map aV)))[0]? = some (AV.v (.int .i64 S[i])):=by
     simp [List.getElem?_take,bc,aV]
    have eN : iZ P (S.take (i + 1)) = zT P (iZ P (S.take i)) S[i]:=(by rw [List.take_succ_eq_append_getElem bc,H8]);generalize S[i] = f at gn eN;have xjn : (iZ P (S.take i)).length≤2 ^ 40:=Nat.le_trans (KO P _) (by rw [List.length_take]; omega);generalize iZ P (S.take i) = acc at *
    obtain ⟨Ib,Sq⟩ : ∃ Ib,Ib = iZ P (S.take (i + 1)):=⟨_,rfl⟩;rw [← Sq] at eN;refine jB (Ai @UE (Ai @QQ (decide_eq_true kR))) ?_;refine wK fun K2 aW=>?_;refine jE ?_;refine ag ?_;refine aW _ _ ?_;clear aW K2;refine wK fun K3 bC=>?_;refine al ?_;refine jB (Ai @VK (Ai @QQ (Ai @kR (Ai @qM @gn)))) ?_;have cW : ∀ (E : Env) (s7 : AS) (x' : AV),E 43 = .sl 1 S.length (S.map aV) .any→E 44 = .v (.int .i64 S.length)→E 45 = .v (.int .i64 i)→E 5 = .dq [.sl 5 t.length (aK ao.cells t) .any]→E 11 = .ptr sr 0→E 14 = .ptr Cp 0→E 15 = .ptr ss 0→E 16 = .v (.int .i64 j)→E 17 = .v (.int .i64 up)→E 18 = .ptr ob 0 →
      s7.aq ob = some [.v (.int .i64 2),aj [] .any,.v (.int .u64 (keys.getD j 0 : Nat)),aj par .any,x']→cO 1 s2 s7 x' Ib.length (Ib.map aV)→s2.le s7→K3 E s7:=by
     intro E s7 x' f43 f44 f45 f5 f11 f14 f15 f16 f17 f18 xd3 fx PU;refine bC _ _ ?_;clear bC K3;refine jD (Ai @f45 (bt i (by omega))) ?_;refine ⟨⟨i + 1,x',bc,f43,f44,rfl,f5,f11,f14,f15,f16,f17,f18,xd3,by rw [← Sq]; exact fx,PU⟩,?_⟩;simp only [QQ,aF,↓reduceIte];omega
    clear bC;have hPf : P f = (mT up f && decide (l7 t f)):=(by rw [hP]);have Pg:=fun s=>ru (Γ:=Γ) hG up f s;have Tl:=fun s=>px f s;have QR:=fun s=>ah.iU (.cons hx.aA (.cons (.refl _) .nil)) (iK (Γ:=Γ) acc f (by omega) s);generalize mT up f = b1 at hPf Pg;generalize decide (l7 t f) = b2 at hPf Tl;have vE : P f = false→Ib = acc:=(fun h=>by rw [eN]; exact if_neg (by rw [h]; simp));have Em : f ∈ acc→Ib = acc:=(fun h=>by rw [eN]; exact if_neg fun k=>k.2 h);have H3 : P f = true→f ∉ acc→Ib = acc ++ [f]:=(fun h k=>by rw [eN]; exact if_pos ⟨h,k⟩);refine jS @UF fun K hK=>?_;refine ad (Pg _) ?_;rintro r s7 ⟨rfl,rfl⟩;cases b1 with
    | false =>
     refine jR hK ?_;clear hK K;refine jF ?_;refine ag ?_;simp only [aw,az,if_true,if_false];rw [vE (by rw [hPf]; rfl)] at cW;exact cW _ _ x VK UE QQ e5 w9 VL OY Jb UF O2 A7 hx nv
    | true =>
     refine jN @e5 ?_;refine ad (Tl _) ?_;rintro r s8 ⟨rfl,rfl⟩;cases b2 with
     | false =>
      refine jR hK ?_;clear hK K;refine jF ?_;refine ag ?_;simp only [aw,az,if_true,if_false];rw [vE (by rw [hPf]; rfl)] at cW;exact cW _ _ x VK UE QQ e5 w9 VL OY Jb UF O2 A7 hx nv
     | true =>
      refine jN (Ai @O2 @A7) ?_;refine ad (QR _) ?_;rintro r s9 ⟨rfl,rfl⟩;by_cases UG : f ∈ acc
      ·rw [decide_eq_true UG];refine jR hK ?_;clear hK K;refine jF ?_;refine ag ?_;simp only [aw,az,if_true,if_false];rw [Em UG] at cW;exact cW _ _ x VK UE QQ e5 w9 VL OY Jb UF O2 A7 hx nv
      ·rw [decide_eq_false UG];rw [H3 (by rw [hPf]; rfl) UG,List.map_append,List.length_append] at cW;refine jR hK ?_;clear hK K;refine jE ?_;rcases hx with ⟨rfl,ic,BT⟩ | ⟨tk,ek,rfl,ft,zV⟩
       ·unfold bZ at A7;refine wE fun K hK=>?_;simp only [↓DN,Qa,Qb,Qc,Qd,Qe,Qf,Qg,Qh,reduceCtorEq,↓reduceIte,Na,Nb,Nc,Nk,Nf,Ng,Nh,Za,Zb,Zc,TT,O2,A7,List.replicate_succ];intro tk ft;refine hK _ _ (cW _ _ (.sl 1 1 [.v (.int .i64 f)] (.own tk 0)) VK UE QQ e5 w9 VL OY Jb UF O2 ?_ ?_ ?_)
        ·rw [AS.aa];rfl
        ·have : acc = []:=List.eq_nil_of_length_eq_zero ic;subst this;exact .inr ⟨tk,0,rfl,by simp [AS.bo,AS.set],bN nv ft⟩
        ·exact AS.aB (AS.bG nv (bN nv ft) 0) qx _
       ·refine wE fun K hK=>?_;simp only [↓DN,Qa,Qb,Qc,Qd,Qe,Qf,Qg,Qh,reduceCtorEq,↓reduceIte,Na,Nb,Nc,Nk,Nf,Ng,Nh,Za,Zb,Zc,TT,O2,A7,ft,List.replicate_succ];refine ⟨by omega,by omega,hK _ _ (cW _ _ (.sl 1 (acc.length + 1) (acc.map aV ++ [.v (.int .i64 f)]) (.own tk (ek + 1))) VK UE QQ e5 w9 VL OY Jb UF O2 ?_ ?_ ?_)⟩
        ·rw [AS.aa];rfl
        ·exact .inr ⟨tk,ek + 1,rfl,by simp [AS.bo,AS.set],zV⟩
        ·exact AS.aB (AS.bG nv zV (ek + 1)) qx _
   ·have kR : ¬ ((i : Nat) : Int) < ((S.length : Nat) : Int):=(by omega);obtain rfl : i = S.length:=(by omega);refine jB (Ai @UE (Ai @QQ (decide_eq_false kR))) ?_;refine wK fun K2 aW=>?_;refine jF ?_;refine aC ?_;simp only [az,aw,if_true];refine hK _ _ ?_;clear hK aW K2 K;rw [List.take_length,hU] at hx;obtain ⟨U,hUe⟩ : ∃ U,U = UB t fresh up:=⟨_,rfl⟩;rw [← hUe] at hx;obtain ⟨b,hb⟩ : ∃ b : ao,b = ⟨2,[],keys.getD j 0,par,U⟩:=⟨_,rfl⟩;refine kX (AS.jj (cs':=b.cells) A7 (by rw [hb]; exact .cons (.refl _) (.cons (.refl _) (.cons (.refl _) (.cons (.refl _) (.cons hx.aA .nil)))))) ?_;have VM:=AS.aa s6 ob b.cells;have si : s2.le (s6.set ob b.cells):=AS.aB nv qx _;generalize s6.set ob b.cells = s7 at VM si ⊢;have r11:=si.aq _ _ O1;have r14:=si.aq _ _ q14;have r15:=si.aq _ _ Bf;have rO:=si.aq _ _ qO;have xaE : TZ.length = t.length:=(by rw [hTZ]; exact lJ ..);have xd4 : up < TZ.length:=by
     have h1 : up ∈ aH leaf (bj t):=by
      rw [QP];simp [List.getD,VJ]
     have:=(Mn dS Jq up h1).1;omega
    have xd5 : (0 : Int)≤((up : Nat) : Int):=(by omega);have G9 : ((up : Nat) : Int) < ((t.length : Nat) : Int):=(by omega);have zW:=zC (k:=5) (fun n=>qG n) xd4 b rest;have R6 : (aK ao.cells TZ ++ rest).length = TZ.length * 5 + rest.length:=(by rw [List.length_append,Go.AM.dk qG]);generalize aK ao.cells TZ ++ rest = R at rO zW R6;have hbc : b.cells = [.v (.int .i64 2),aj [] .any,.v (.int .u64 (keys.getD j 0 : Nat)),aj par .any,aR U .any]:=(by rw [hb]; rfl);rw [hbc] at zW VM;simp only [bn] at zW;unfold aj aR at VM zW;simp only [List.length_nil,List.map_nil] at VM zW;refine jS (Ai @w9 (Ai @UF (Ai @O2 (Ai @r11 (Ai @VM (Ai @rO (Ai @xd5 @G9))))))) fun K hK=>?_;refine ⟨by omega,hK _ _ ?_⟩;clear hK K;rw [zW];have nOb : O≠ob:=(fun e=>by rw [← e,qO] at qx; cases qx);have xd6 : Cp≠ob:=(fun e=>by rw [← e,q14] at qx; cases qx);have xjr : sr≠ob:=(fun e=>by rw [← e,O1] at qx; cases qx);have xaF : s.le (s7.set O (aK ao.cells (TZ.set up b) ++ rest)):=AS.aB (fC.trans si) Vo _;have u11 : (s7.set O (aK ao.cells (TZ.set up b) ++ rest)).aq sr = _:=(AS.ae _ (Ne.symm UC) _).trans r11;have Sr : (s7.set O (aK ao.cells (TZ.set up b) ++ rest)).aq Cp = _:=(AS.ae _ (Ne.symm xaA) _).trans r14;have u15 : (s7.set O (aK ao.cells (TZ.set up b) ++ rest)).aq ss = _:=(AS.ae _ (Ne.symm QO) _).trans r15;have uO:=AS.aa s7 O (aK ao.cells (TZ.set up b) ++ rest);have ub : (s7.set O (aK ao.cells (TZ.set up b) ++ rest)).aq ob = _:=(AS.ae _ (Ne.symm nOb) _).trans VM;generalize s7.set O (aK ao.cells (TZ.set up b) ++ rest) = s8 at xaF u11 Sr u15 uO ub ⊢;have HD : (bw (cR leaf (bj t))).length = (aH leaf (bj t)).length:=(by simp [cJ,cR]);have Ss : (List.take 1 (List.drop j ((bw (cR leaf (bj t))).map aV)))[0]? = some (AV.v (.int .i64 (cC (nodeAt leaf (bj t) j) : Nat))):=by
     simp [List.getElem?_take,bw,cR,VJ,aV]
    have Js:=fun s=>Ba (Γ:=Γ) ev ig hG t ht (cC (nodeAt leaf (bj t) j) : Nat) s;have zX:=fun s=>vr (Γ:=Γ) ev ig b (by rw [hb,hUe]; exact Nat.le_trans (NT _ _ _) (by omega)) (zz t (cC (nodeAt leaf (bj t) j) : Nat)) (by
     unfold zz;split
     ·exact Nat.le_trans (vu t _ _) (by omega)
     ·simp) s
    rw [hbc] at zX;have xd7 : (0 : Int)≤((j : Nat) : Int):=(by omega);have xaI : ((j : Nat) : Int) < (((bw (cR leaf (bj t))).length : Nat) : Int):=(by omega);obtain ⟨HH,hHH⟩ : ∃ HH,HH = zz t (cC (nodeAt leaf (bj t) j) : Nat):=⟨_,rfl⟩;rw [← hHH] at Js zX;obtain ⟨PD,hPD⟩ : ∃ PD,PD = qH b HH:=⟨_,rfl⟩;rw [← hPD] at zX;obtain ⟨SD,hSD⟩ : ∃ SD,SD = bw (cR leaf (bj t)):=⟨_,rfl⟩;rw [← hSD] at HD Ss Sr xaI;unfold bA at Js;unfold aj at Js zX;unfold aR at Sr zX;simp only [List.length_nil,List.map_nil] at zX;generalize aK ao.cells t = XT at *
    have NX : ¬ ob = Cp:=fun e=>xd6 e.symm;have UH : ¬ ob = ss:=fun e=>xaB e.symm;refine cw T.mixed [(ob,[.v (.int .i64 2),.sl 1 0 [] .any,.v (.int .u64 (keys.getD j 0 : Nat)),.sl 1 par.length (par.map ai) .any,.sl 1 U.length (U.map aV) .any]),(Cp,[.sl 1 SD.length (SD.map aV) .any])] [6,7,8] [0,2] [] (by kernel_rfl) (by simp only [aD,aG,and_true]; simp [AS.set,aF,Sr,ub,u15]) ?_;intro K hK;simp only [↓bd,↓aS,cZ,cV,aL,aO,aD,aG,List.any_cons,List.any_nil,List.contains_cons,List.contains_nil,Nat.reduceBEq,Bool.or_false,Bool.or_true,Bool.or_self,Bool.false_or,↓DN,Qa,Qb,Qc,Qd,Qe,Qf,Qg,Qh,reduceCtorEq,↓reduceIte,Na,Nb,Nc,Nk,Nf,Ng,Nh,Za,Zb,Zc,TT,e5,VL,OY,Jb,O2,xd7,xaI,Ss,Sr,ub,u15,NX,UH];refine ad (Js _) ?_;rintro r s9 ⟨rfl,rfl⟩;simp only [↓bI,↓bp,bL,↓bd,↓aS,cZ,cV,aL,aO,aD,aG,List.any_cons,List.any_nil,DX,Nat.reduceBEq,↓DN,Qa,Qb,Qc,Qd,Qe,Qf,Qg,Qh,reduceCtorEq,↓reduceIte,Na,Nb,Nc,Nk,Nf,Ng,Nh,Za,Zb,Zc,TT,Sr,ub,u15,NX,UH];refine ad (zX _) ?_;rintro r OS ⟨rfl,rfl⟩;have xaJ : ¬ Cp = ss:=fun e=>NV e.symm;simp only [↓bI,↓bp,bL,↓bd,↓aS,cZ,cV,aL,aO,aD,aG,List.any_cons,List.any_nil,DX,Nat.reduceBEq,↓DN,Qa,Qb,Qc,Qd,Qe,Qf,Qg,Qh,reduceCtorEq,↓reduceIte,Na,Nb,Nc,Nk,Nf,Ng,Nh,Za,Zb,Zc,TT,OY,Sr,ub,u15,NX,UH,xaJ];refine hK _ _ ?_;clear hK K;simp only [aw,true_and];have gQ : j = (aH leaf (bj t)).length - 1 - i0:=hj;refine ⟨AS.aB xaF Sc _,(AS.ae _ (Ne.symm Jr) _).trans u11,(AS.ae _ (Ne.symm NV) _).trans (by rw [Sr,hSD]; rfl),?_,?_⟩
    ·rw [AS.aa,hPD,hHH,hb,hUe,UD,QP,hj];rfl
    ·rw [AS.ae _ QO,uO,hb,hUe,UD,QP,hTZ,hj];rfl
 ·rw [show ((List.range (aH leaf (bj t)).length).map fun i=>[aV (((aH leaf (bj t)).length - 1 - i : Nat) : Int),aV ((bw (aH leaf (bj t))).getD ((aH leaf (bj t)).length - 1 - i) 0)]).length = (aH leaf (bj t)).length by simp];rintro s2 ⟨fC,O1,q14,Bf,qO⟩;have xaE:=lJ t leaf keys fresh (aH leaf (bj t)).length;obtain ⟨W,hW⟩ : ∃ W,W = iW t leaf key keys fresh:=⟨_,rfl⟩;rw [← hW];unfold iW at hW;simp only at hW;generalize (w8 t leaf keys fresh (aH leaf (bj t)).length).2 = par at *
  generalize (w8 t leaf keys fresh (aH leaf (bj t)).length).1 = TZ at *
  have hu : 2 * leaf < TZ.length:=(by omega);have zW:=H9 hu key par rest;have R6 : (aK ao.cells TZ ++ rest).length = TZ.length * 5 + rest.length:=(by rw [List.length_append,Go.AM.dk qG]);rw [← hW] at zW;have Qu : W.length = t.length:=(by rw [hW,List.length_set,xaE]);generalize aK ao.cells TZ ++ rest = R at qO zW R6;unfold aj at Bf zW;have dr : (0 : Int)≤((2 * leaf : Nat) : Int):=(by omega);have bS : ((2 * leaf : Nat) : Int) < ((t.length : Nat) : Int):=(by omega);have xd8 : 2 * leaf < t.length:=(by omega);have xaK : ¬ sr = O:=fun e=>UC e.symm;have xd9 : ¬ ss = O:=fun e=>QO e.symm;refine ef T.mixed [(sr,[.gw O 0 5 t.length cap]),(ss,[.sl 1 par.length (par.map ai) .any])] [10,13] [0,3,7] [] (by kernel_rfl) (by simp only [aD,aG,and_true]; simp [AS.set,aF,O1,Bf]) ?_;intro K hK;simp only [↓bd,↓aS,cZ,cV,aL,aO,aD,aG,List.any_cons,List.any_nil,List.contains_cons,List.contains_nil,Nat.reduceBEq,Bool.or_false,Bool.or_true,Bool.or_self,Bool.false_or,↓DN,Qa,Qb,Qc,Qd,Qe,Qf,Qg,Qh,reduceCtorEq,↓reduceIte,Na,Nb,Nc,Nk,Nf,Ng,Nh,Za,Zb,Zc,TT,eG leaf (by omega),dr,bS,ax,xd8,O1,Bf,qO,xaK,xd9,Jr,Ne.symm Jr];refine ⟨by omega,by rw [List.length_set]; omega,hK _ _ ?_⟩;clear hK K;rw [zW];have u11 : (s2.set O (aK ao.cells W ++ rest)).aq sr = _:=(AS.ae _ xaK _).trans O1;have uO:=AS.aa s2 O (aK ao.cells W ++ rest);have gX : s.le (s2.set O (aK ao.cells W ++ rest)):=AS.aB fC Vo _;generalize s2.set O (aK ao.cells W ++ rest) = s3 at u11 uO gX ⊢;refine jB @u11 ?_;refine jI ?_;exact jW ⟨O,cap,rest,by rw [Qu],uO,by rw [Qu]; exact ib,Vo,gX⟩
theorem FU.settle {s s' : AS} {r : AV} {T : List ao} (h : FU s s' r T) : ∃ s2,cM Γ s' r s2 (bA T)∧s.le s2:=by
 obtain ⟨O,cap,rest,rfl,h1,_,h3,h4⟩:=h;exact ⟨_,cM.outer h1 (Go.AM.dk qG _),AS.sN h4 h3⟩
theorem tG (ev : Γ 0 = ew Sha.H0) (ig : Γ 1 = Sha.K.map wV) (hG : Γ 3 = fM.map pg) (t : List ao) (ht : gG t) (MA : t.length≤2 ^ 30) (hw : ∀ n ∈ t,p5 n) (hr : bO t) (leaf : Nat) (hm : l7 t leaf)
  (key : Nat) (keys : List Nat) (hk : keys.length = (aH leaf (bj t)).length) (fresh : List Int) (hf : fresh.length≤2 ^ 40) (s : AS) :
  ah prog Γ 50 [bA t,.v (.int .i64 leaf),.v (.int .u64 key),Fp keys,aR fresh .any] s (fun r s'=>r = bA (iW t leaf key keys fresh)∧s' = s):=by
 refine ah.forget (ah.settle (Be ev ig hG t ht MA hw hr leaf hm key keys hk fresh hf s) ?_ (R:=fun r s'=>r = bA (iW t leaf key keys fresh)∧s.le s')) fun r s' ⟨h1,h2⟩=>⟨s,h2,h1,rfl⟩;intro r s' h;obtain ⟨s2,h1,h2⟩:=FU.settle (Γ:=Γ) h;exact ⟨_,_,h1,rfl,h2⟩
end Go.Proofs.YtbiefppedlodiaaGreatDoor
