/- Contracts of functions, each walked once; each theorem states its conditions. -/
import Derived.Test.YtbiefppedlodiaaGreatDoorAMp6
import Derived.Test.YtbiefppedlodiaaGreatDoorW1
import Derived.Test.YtbiefppedlodiaaGreatDoorW4
import Derived.Test.YtbiefppedlodiaaGreatDoorW3
set_option linter.unusedSimpArgs false
set_option linter.unusedVariables false
open Nat renaming reduceLT → Na, reduceLeDiff → Nb, reduceEqDiff → Nc, reduceAdd → Nk, reduceMul → Nf, reducePow → Ng, reduceSub → Nh, reduceBEq → Nz
open Int renaming reduceLT → Za, reduceLE → Zb, reduceToNat → Zc
open And renaming intro → Ai
open Go.AM renaming ashift → Qa, aconv → Qb, aindexAddr → Qc, aindex → Qd, aslice → Qe, abuiltin → Qf, awp_reg_seq → wS, awp_reg_end → wE, awp_seq_k → wK, awp_cond_k → wC
open Go.AM.AV renaming cells → Qg, one → Qh
set_option maxRecDepth 100000
set_option maxHeartbeats 8000000
namespace Go.Proofs.YtbiefppedlodiaaGreatDoor
open Go Go.AM Go.Proofs Tryz
variable{Γ:Nat→List AV}
def row(c:List UInt8)(i:Nat):List AV:=(Sha.mf c i).map wV++List.replicate (64-i) (wV 0)
theorem row_zero(c:List UInt8):row c 0=List.replicate 64 (wV 0):=rfl
theorem EN(c:List UInt8):row c 64=(Sha.mf c 64).map wV:=by simp[row]
theorem cL(c:List UInt8)(i:Nat)(h:i≤64):(row c i).length=64:=by
 simp[row,Sha.cz];omega
theorem drop_cons{α:Type}(l:List α)(j:Nat)(x:α)(h:l[j]? =some x):List.drop j l=x::List.drop (j+1) l:=by
 obtain⟨h1,h2⟩:=List.getElem?_eq_some_iff.1 h;rw[List.drop_eq_getElem_cons h1,h2]
theorem kf(c:List UInt8)(i j:Nat)(h:j<i):List.drop j (row c i)=wV ((Sha.mf c i).getD j 0)::List.drop (j+1) (row c i):=by
 apply drop_cons;have hl:j<(Sha.mf c i).length:=(by rw[Sha.cz];exact h);rw[row,List.getElem?_append_left (by simpa using hl),List.getElem?_map,List.getElem?_eq_getElem hl];simp[List.getD,List.getElem?_eq_getElem hl]
def rowP(c:List UInt8)(i v:Nat):List AV:=(row c i).set i (wV v)
theorem Ju(c:List UInt8)(i:Nat)(h:i<64):rowP c i 0=row c i:=by
 unfold rowP;apply List.ext_getElem?;intro k;by_cases e:k=i
 ·subst e;rw[List.getElem?_set_self (by rw[cL c k (by omega)];exact h),row,List.getElem?_append_right (by simp[Sha.cz])];simp[Sha.cz,List.getElem?_replicate];omega
 ·rw[List.getElem?_set_ne (by omega)]
theorem Jv(c:List UInt8)(i v:Nat)(h:i<64):List.drop i (rowP c i v)=wV v::List.drop (i+1) (rowP c i v):=by
 apply drop_cons;rw[rowP,List.getElem?_set_self (by rw[cL c i (by omega)];exact h)]
theorem Mg(c:List UInt8)(i v u:Nat):(rowP c i v).set i (wV u)=rowP c i u:=by simp[rowP]
theorem Mh(c:List UInt8)(i v:Nat)(h:i≤64):(rowP c i v).length=64:=by simp[rowP,cL c i h]
theorem xd(c:List UInt8)(i:Nat)(h:i<64):(row c i).set i (wV (Sha.word c (Sha.mf c i) i))=row c (i+1):=by
 apply List.ext_getElem?;intro k;by_cases e:k=i
 ·subst e;rw[List.getElem?_set_self (by rw[cL c k (by omega)];exact h),row,List.getElem?_append_left (by simp[Sha.cz])];simp[Sha.mf,Sha.cz,List.getElem?_append_right]
 ·rw[List.getElem?_set_ne (by omega),row,row];by_cases hk:k<i
  ·rw[List.getElem?_append_left (by simp[Sha.cz];omega),List.getElem?_append_left (by simp[Sha.cz];omega)];simp[Sha.mf,List.getElem?_append_left,Sha.cz,hk]
  ·rw[List.getElem?_append_right (by simp[Sha.cz];omega),List.getElem?_append_right (by simp[Sha.cz];omega)];simp only[List.length_map,Sha.cz,List.getElem?_replicate];by_cases h2:k<64
   ·rw[if_pos (by omega),if_pos (by omega)]
   ·rw[if_neg (by omega),if_neg (by omega)]
def ri(c:List UInt8)(i k:Nat):Nat:=((c.drop (4*i)).take k).foldl (fun x b=>x*256+b.toNat) 0
theorem yU(c:List UInt8)(i:Nat):ri c i 0=0:=rfl
theorem lY(c:List UInt8)(i k:Nat)(b:UInt8)(h:c[4*i+k]? =some b):ri c i (k+1)=ri c i k*256+b.toNat:=by
 unfold ri;have :(c.drop (4*i))[k]? =some b:=(by rw[List.getElem?_drop];exact h);obtain⟨h1,h2⟩:=List.getElem?_eq_some_iff.1 this;rw[List.take_succ_eq_append_getElem h1,List.foldl_append,h2];rfl
theorem Mi(c:List UInt8)(i k:Nat)(hk:k≤3):ri c i k<16777216:=by
 have key:∀(l:List UInt8)(x:Nat),l.foldl (fun x b=>x*256+b.toNat) x<(x+1)*256^l.length:=by
  intro l;induction l with
  |nil=>intro x;simp
  |cons b l ih=>
   intro x;rw[List.foldl_cons];have h1:=ih (x*256+b.toNat);have hb:=b.toNat_lt;have h2:(x*256+b.toNat+1)*256^l.length≤((x+1)*256)*256^l.length:=Nat.mul_le_mul_right _ (by omega);rw[List.length_cons,Nat.pow_succ,Nat.mul_comm (256^l.length),←Nat.mul_assoc];omega
 have h:=key ((c.drop (4*i)).take k) 0;have hl:((c.drop (4*i)).take k).length≤3:=(by simp;omega);have :256^((c.drop (4*i)).take k).length≤256^3:=Nat.pow_le_pow_right (by decide) hl;unfold ri;omega
theorem GU(c:List UInt8)(p:List Nat)(i:Nat)(hi:i<16)(hc:c.length=64):ri c i 4=Sha.word c p i:=by
 have g:∀j,j<4→c[4*i+j]? =some (c.getD (4*i+j) 0):=fun j hj=>by
  rw[List.getD_eq_getElem?_getD,List.getElem?_eq_getElem (by omega)];rfl
 rw[lY c i 3 _ (g 3 (by omega)),lY c i 2 _ (g 2 (by omega)),lY c i 1 _ (g 1 (by omega)),lY c i 0 _ (g 0 (by omega)),yU];unfold Sha.word;rw[if_pos hi];simp only[Sha.GP,Nat.add_zero,Nat.zero_mul,Nat.zero_add]
theorem S8(x:Nat)(b:UInt8)(h:x<16777216):FJ .u32 (kj .u32 (x:Int) 8) (cG .u32 (b.toNat:Int))=((x*256+b.toNat:Nat):Int):=by
 have hb:=b.toNat_lt;rw[show(8:Int)=((8:Nat):Int) from rfl,Mf x 8 (by decide),gE rfl];have e1:x*2^8%4294967296=x*256:=(by omega);have e2:b.toNat%2^IntKind.u32.bits=b.toNat:=(by simp only[IntKind.bits];omega);rw[e1,e2,YS _ _ (by omega) (by omega)];have:=Nat.shiftLeft_add_eq_or_of_lt (b:=b.toNat) (i:=8) (by omega) x;rw[Nat.shiftLeft_eq] at this;rw[show x*256=x*2^8 from rfl,←this]
theorem rY:∀(xs cs:List AV)(off:Nat),off+xs.length≤cs.length→bn cs off xs=cs.take off++xs++cs.drop (off+xs.length)
 |[],cs,off,_=>by simp[bn]
 |x::xs,cs,off,h=>by
  simp only[List.length_cons] at h;rw[bn,rY xs _ _ (by simp;omega)];have e1:List.take (off+1) (cs.set off x)=List.take off cs++[x]:=by
   rw[List.take_succ_eq_append_getElem (by simp;omega)];simp[List.take_set_of_le]
  have e2:List.drop (off+1+xs.length) (cs.set off x)=List.drop (off+(xs.length+1)) cs:=by
   rw[List.drop_set_of_lt (by omega),show off+1+xs.length=off+(xs.length+1) from by omega]
  rw[e1,e2];simp
theorem bB(cs xs:List AV)(h:cs.length=xs.length):bn cs 0 xs=xs:=by
 rw[rY xs cs 0 (by omega)];simp[←h]
theorem z138:bq prog 246=some (List.replicate 64 (wV 0)):=by kernel_rfl
theorem S9(l:List Nat):(l.map wV).all AV.one=true:=by
 rw[List.all_eq_true];intro x hx;obtain⟨n,_,rfl⟩:=List.mem_map.1 hx;rfl
theorem q64:kK .i64 ((64:Nat):Int) 4=16:=by decide
theorem cN(i:Nat)(h:i<2^62):ec .i64 (i:Int) 1=((i+1:Nat):Int):=by
 rw[eL (by omega)];rfl
theorem EO(i:Nat)(h:i<64):gO .i64 4 (i:Int)=((4*i:Nat):Int):=by
 rw[dI (by omega)];omega
theorem fU(a b:Nat)(h:a+b<9223372036854775808):ec .i64 (a:Int) (b:Int)=((a+b:Nat):Int):=by
 rw[eL (by omega)];omega
theorem Mj(a:Nat)(h:a<2^62):ec .i64 (a:Int) 4=((a+4:Nat):Int):=fU a 4 (by omega)
theorem gF(a b:Nat)(hb:b≤a)(h:a<9223372036854775808):di .i64 (a:Int) (b:Int)=((a-b:Nat):Int):=by
 rw[bR (by omega)];omega
theorem CO(c:List UInt8)(hc:c.length=64)(s:AS):
  aj prog Γ 233 [al c .any] s (fun r s'=>r=.agg ((Sha.mf c 64).map wV)∧s'=s):=by
 refine aa func233 rfl ntmps233 results233 (by simp) ?_;refine jS @z138 fun K hK=>?_;intro o2 qG;refine hK _ _ ?_;clear hK K;refine jS @z138 fun K hK=>?_;intro o3 An;refine hK _ _ ?_;clear hK K;obtain⟨tc,Ao⟩:=AS.eW An;clear An;rw[←row_zero c];refine wK fun K hK=>?_;refine jA ?_;refine ah ?_;have iF:(al c .any:AV)=.sl 1 64 (c.map ai) .any:=(by rw[al,hc]);refine aD (fun E s1=>∃i:Nat,i≤64∧E 0=.sl 1 64 (c.map ai) .any∧E 2=.ptr o2 0∧E 3=.ptr o3 0∧E 7=.v (.int .i64 i)∧s1=(s.set o2 (row c 0)).set o3 (row c i))
  (fun E _=>match E 7 with |.v (.int _ i)=>64-i.toNat|_=>0) ?_ ?_
 ·exact⟨0,by omega,by simp[aH,bC,hc],by simp[aH],by simp[aH],by simp[aH],rfl⟩
 ·rintro E1 s1 ⟨i,hi,e0,e2,e3,e7,rfl⟩ -
  by_cases aY:i<64
  ·have fj:(i:Int)<64:=(by omega);have Fx:(i:Int)<((64:Nat):Int):=(by omega);refine jB (Ai @e7 (decide_eq_true fj)) ?_;refine wK fun K2 aX=>?_;refine jE ?_;refine ab ?_;refine aX _ _ ?_;clear aX K2;refine wK fun K3 br=>?_;refine ah ?_;refine jB @e7 ?_;have H7:∀E4:Env,E4 0=.sl 1 64 (c.map ai) .any→E4 2=.ptr o2 0→E4 3=.ptr o3 0→E4 7=.v (.int .i64 i)→K3 E4 ((s.set o2 (row c 0)).set o3 (row c (i+1))):=by
    intro E4 f0 f2 f3 f7;refine br _ _ ?_;clear br K3;refine jD (Ai @f7 (cN i (by omega))) ?_;refine⟨⟨i+1,by omega,f0,f2,f3,rfl,rfl⟩,?_⟩;simp only[e7,aH,↓reduceIte];omega
   clear br;refine wK fun K4 eb=>?_;by_cases Pn:i<16
   ·have Ml:(i:Int)<16:=(by omega);refine jB (Ai @e0 (Ai @e7 @q64)) ?_;refine wC fun X Y hX hY=>?_;simp only[UP,DF,Nc,↓reduceIte,DB];refine⟨fun _=>hX ?_,fun h=>absurd Ml h⟩;clear hX hY X Y;have BP:(0:Int)≤((4*i:Nat):Int):=(by omega);have hlh:((4*i:Nat):Int)≤((4*i+4:Nat):Int):=(by omega);have xcr:((4*i+4:Nat):Int)≤((64:Nat):Int):=(by omega);refine wK fun K5 jZ=>?_;refine jB (Ai @e0 (Ai @e7 (Ai (EO i aY) (Ai (Mj (4*i) (by omega)) (Ai @BP (Ai @hlh (Ai @xcr @Nat.add_sub_cancel_left))))))) ?_;refine ah ?_;obtain⟨Xs,hXs⟩:∃Xs,Xs=List.map ai (List.drop (4*i) (List.take (4*i+4) c)):=⟨_,rfl⟩;have hXk:∀k,k<4→List.take 1 (List.drop k Xs)=[ai (c.getD (4*i+k) 0)]:=by
     intro k hk;have :Xs[k]? =some (ai (c.getD (4*i+k) 0)):=by
      rw[hXs,List.getElem?_map,List.getElem?_drop,List.getElem?_take,if_pos (by omega),List.getElem?_eq_getElem (by omega)];simp only[Option.map_some,List.getD,List.getElem?_eq_getElem (show 4*i+k<c.length by omega),Option.getD_some]
     rw[drop_cons _ _ _ this];rfl
    rw[←hXs];refine aD (fun E s2=>∃k:Nat,k≤4∧E 0=.sl 1 64 (c.map ai) .any∧E 2=.ptr o2 0∧E 3=.ptr o3 0∧E 7=.v (.int .i64 i)∧E 4=.v (.int .i64 i)∧E 21=.sl 1 4 Xs .any∧E 22=.v (.int .i64 4)∧E 23=.v (.int .i64 k)∧s2=(s.set o2 (row c 0)).set o3 (rowP c i (ri c i k)))
     (fun E _=>match E 23 with |.v (.int _ k)=>4-k.toNat|_=>0) ?_ ?_
    ·refine⟨0,by omega,e0,e2,e3,e7,rfl,rfl,rfl,rfl,by rw[yU,Ju c i aY]⟩
    ·rintro E2 s2 ⟨k,hk,g0,g2,g3,g7,g4,g21,g22,g23,rfl⟩ -
     by_cases tj:k<4
     ·have Da:(k:Int)<4:=(by omega);have X1:(0:Int)≤(k:Int):=(by omega);have UU:(k:Int)<((4:Nat):Int):=(by omega);have fg:(0:Int)≤(i:Int):=(by omega);refine jB (Ai @g23 (Ai @g22 (decide_eq_true Da))) ?_;refine wK fun K6 kC=>?_;refine jE ?_;refine ab ?_;refine kC _ _ ?_;clear kC K6;refine wK fun K7 H4=>?_;refine ah ?_;obtain⟨b,hb⟩:∃b,b=c.getD (4*i+k) 0:=⟨_,rfl⟩;have Po:c[4*i+k]? =some b:=by
       rw[hb,List.getD_eq_getElem?_getD,List.getElem?_eq_getElem (by omega)];rfl
      have YV:=hXk k tj;rw[←hb] at YV;refine jB (Ai @g21 (Ai @g23 (Ai @X1 (Ai @Da (Ai @UU @YV))))) ?_;obtain⟨v,hv⟩:∃v,v=ri c i k:=⟨_,rfl⟩;have hv3:v<16777216:=(by rw[hv];exact Mi c i k (by omega));rw[←hv];have hd:=Jv c i v aY;have cr:(rowP c i v).set i (wV (v*256+b.toNat))=rowP c i (ri c i (k+1)):=(by rw[Mg,lY c i k b Po,hv]);have hlen:=Mh c i v hi;obtain⟨R,hR⟩:∃R,R=rowP c i v:=⟨_,rfl⟩;rw[←hR] at hd cr hlen⊢;refine wE fun K hK=>?_;simp only[↓DN,Qa,Qb,Qc,Qd,Qe,Qf,Qg,Qh,reduceCtorEq,↓reduceIte,Na,Nb,Nc,Nk,Nf,Ng,Nh,Za,Zb,Zc,TT,g3,g4,fg,fj,Fx,hd,ai,S8 v b hv3,cr,hlen,aY];refine⟨by omega,hK _ _ ?_⟩;clear hK K;simp only[ar,az,if_true,if_false];refine H4 _ _ ?_;clear H4 K7;refine jD (Ai @g23 (cN k (by omega))) ?_;refine⟨⟨k+1,by omega,g0,g2,g3,g7,g4,g21,g22,rfl,rfl⟩,?_⟩;simp only[g23,aH,↓reduceIte];omega
     ·have Da:¬(k:Int)<4:=(by omega);obtain rfl:k=4:=(by omega);refine jB (Ai @g23 (Ai @g22 (decide_eq_false Da))) ?_;refine wK fun K6 kC=>?_;refine jF ?_;refine aC ?_;simp only[az,ar,if_true];clear kC K6;refine jZ _ _ ?_;clear jZ K5;refine aC ?_;simp only[az,ar,if_true];rw[GU c (Sha.mf c i) i Pn hc];have :rowP c i (Sha.word c (Sha.mf c i) i)=row c (i+1):=xd c i aY;rw[this];exact H7 _ g0 g2 g3 g7
   ·have Ml:¬(i:Int)<16:=(by omega);have fg:(0:Int)≤(i:Int):=(by omega);refine jB (Ai @e0 (Ai @e7 @q64)) ?_;refine wC fun X Y hX hY=>?_;simp only[UP,DF,Nc,↓reduceIte,DB];refine⟨fun h=>absurd h Ml,fun _=>hY ?_⟩;clear hX hY X Y;refine ab ?_;refine eb _ _ ?_;clear eb K4;have n2:(0:Int)≤((i-2:Nat):Int):=(by omega);have n7:(0:Int)≤((i-7:Nat):Int):=(by omega);have n15:(0:Int)≤((i-15:Nat):Int):=(by omega);have n16:(0:Int)≤((i-16:Nat):Int):=(by omega);have m2:((i-2:Nat):Int)<((64:Nat):Int):=(by omega);have m7:((i-7:Nat):Int)<((64:Nat):Int):=(by omega);have Rg:((i-15:Nat):Int)<((64:Nat):Int):=(by omega);have Pp:((i-16:Nat):Int)<((64:Nat):Int):=(by omega);have s2:di .i64 (i:Int) 2=((i-2:Nat):Int):=gF i 2 (by omega) (by omega);have s7:di .i64 (i:Int) 7=((i-7:Nat):Int):=gF i 7 (by omega) (by omega);have s15:di .i64 (i:Int) 15=((i-15:Nat):Int):=gF i 15 (by omega) (by omega);have JW:di .i64 (i:Int) 16=((i-16:Nat):Int):=gF i 16 (by omega) (by omega);have d2:=kf c i (i-2) (by omega);have d7:=kf c i (i-7) (by omega);have d15:=kf c i (i-15) (by omega);have d16:=kf c i (i-16) (by omega);have hw:Sha.word c (Sha.mf c i) i=Sha.ei (Sha.ei (Sha.ei (Sha.CM ((Sha.mf c i).getD (i-2) 0) 17 19 10) ((Sha.mf c i).getD (i-7) 0)) (Sha.CM ((Sha.mf c i).getD (i-15) 0) 7 18 3)) ((Sha.mf c i).getD (i-16) 0):=(by rw[Sha.word,if_neg Pn]);have cr:=xd c i aY;rw[hw] at cr;have hlen:=cL c i hi;have l2:=Sha.mI c i (i-2);have Pq:=Sha.mI c i (i-15);generalize (Sha.mf c i).getD (i-2) 0=x2 at *
    generalize (Sha.mf c i).getD (i-7) 0=x7 at *
    generalize (Sha.mf c i).getD (i-15) 0=x15 at *
    generalize (Sha.mf c i).getD (i-16) 0=x16 at *
    obtain⟨R,hR⟩:∃R,R=row c i:=⟨_,rfl⟩;rw[←hR] at d2 d7 d15 d16 cr hlen⊢;refine cD T.mixed [(o3,R)] [5,15] [4,9,14,20] [23] (by kernel_rfl) (by simp only[aG,aJ,and_true];simp[AS.set,aH]) ?_;intro K hK;simp only[↓bo,↓a7,da,cX,aL,aR,aG,aJ,List.any_cons,List.any_nil,List.contains_cons,List.contains_nil,Nat.reduceBEq,Bool.or_false,Bool.or_true,Bool.or_self,Bool.false_or,↓DN,Qa,Qb,Qc,Qd,Qe,Qf,Qg,Qh,reduceCtorEq,↓reduceIte,Na,Nb,Nc,Nk,Nf,Ng,Nh,Za,Zb,Zc,TT,e3,e7,fg,Fx,n2,n7,n15,n16,m2,m7,Rg,Pp,s2,s7,s15,JW,d2,d7,d15,d16,tc];refine ad (rh x2 17 19 10 l2 (by omega) (by omega) (by omega) (by omega) (by omega) (by omega) _) ?_;rintro r sa ⟨rfl,rfl⟩;simp only[↓ca,↓bI,bN,↓bo,↓a7,da,cX,aL,aR,aG,aJ,List.any_cons,List.any_nil,DX,Nat.reduceBEq,↓DN,Qa,Qb,Qc,Qd,Qe,Qf,Qg,Qh,reduceCtorEq,↓reduceIte,Na,Nb,Nc,Nk,Nf,Ng,Nh,Za,Zb,Zc,TT,e3,e7,fg,Fx,n2,n7,n15,n16,m2,m7,Rg,Pp,s2,s7,s15,JW,d2,d7,d15,d16,tc,tQ];refine ad (rh x15 7 18 3 Pq (by omega) (by omega) (by omega) (by omega) (by omega) (by omega) _) ?_;rintro r sb ⟨rfl,rfl⟩;simp only[↓ca,↓bI,bN,↓bo,↓a7,da,cX,aL,aR,aG,aJ,List.any_cons,List.any_nil,DX,Nat.reduceBEq,↓DN,Qa,Qb,Qc,Qd,Qe,Qf,Qg,Qh,reduceCtorEq,↓reduceIte,Na,Nb,Nc,Nk,Nf,Ng,Nh,Za,Zb,Zc,TT,e3,e7,fg,Fx,n2,n7,n15,n16,m2,m7,Rg,Pp,s2,s7,s15,JW,d2,d7,d15,d16,tc,tQ,cr,hlen];refine⟨by omega,hK _ _ ?_⟩;clear hK K;simp only[ar,az,if_true,if_false];exact H7 _ e0 e2 e3 e7
  ·have fj:¬(i:Int)<64:=(by omega);obtain rfl:i=64:=(by omega);refine jB (Ai @e7 (decide_eq_false fj)) ?_;refine wK fun K2 aX=>?_;refine jF ?_;refine aC ?_;simp only[az,ar,if_true];clear aX K2;refine hK _ _ ?_;clear hK K;rw[EN c];have wx:((Sha.mf c 64).map wV).length=64:=(by simp[Sha.cz]);have bT:=S9 (Sha.mf c 64);have dM:List.take 64 ((Sha.mf c 64).map wV)=(Sha.mf c 64).map wV:=List.take_of_length_le (by omega);obtain⟨X,hX⟩:∃X,X=(Sha.mf c 64).map wV:=⟨_,rfl⟩;rw[←hX] at wx bT dM⊢;refine jS (Ai @e2 (Ai @e3 (Ai @wx (Ai @dM (Ai @bT (Ai @tc @tc.symm)))))) fun K hK=>?_;have Fw:(row c 0).length=64:=cL c 0 (by omega);rw[bB (row c 0) X (by omega)];refine⟨by omega,hK _ _ ?_⟩;clear hK K;refine a8 ?_;refine eF (v:=.agg X) (o:=o2) (off:=0) e2 (AS.ae _ _ _) (by rw[T.Sk];decide) (by simp only[↓DN,Qa,Qb,Qc,Qd,Qe,Qf,Qg,Qh,reduceCtorEq,↓reduceIte,Na,Nb,Nc,Nk,Nf,Ng,Nh,Za,Zb,Zc,TT,wx,dM]) ?_;exact⟨_,s,AV.aB.refl _,AS.aE (AS.aE (AS.aE (AS.le.refl s) qG _) Ao _) qG _,rfl,rfl⟩
abbrev ef(t:Sha.St):List AV:=[wV t.a,wV t.b,wV t.c,wV t.d,wV t.e,wV t.f,wV t.g,wV t.h]
theorem c8:((8:Nat):Int)=8:=rfl
theorem yV(l:List Nat)(i:Nat)(h:i<l.length):(l.map wV)[i]? =some (wV (l.getD i 0)):=by
 rw[List.getElem?_map,List.getElem?_eq_getElem h];simp[List.getD,List.getElem?_eq_getElem h]
def yW(t u:Sha.St)(i:Nat):List AV:=(ef (t.add u)).take i++(ef t).drop i
theorem Bs(t u:Sha.St):yW t u 0=ef t:=rfl
theorem Bt(t u:Sha.St):yW t u 8=ef (t.add u):=rfl
theorem EP(t u:Sha.St)(i:Nat)(h:i≤8):(yW t u i).length=8:=by
 simp[yW];omega
theorem at8{i:Nat}(h:i<8):i=0∨i=1∨i=2∨i=3∨i=4∨i=5∨i=6∨i=7:=by omega
theorem Bu(t u:Sha.St)(i:Nat)(h:i<8):List.drop i (yW t u i)=wV (t.list.getD i 0)::(ef t).drop (i+1):=by
 rcases at8 h with rfl|rfl|rfl|rfl|rfl|rfl|rfl|rfl<;>rfl
theorem ER(t u:Sha.St)(i:Nat)(h:i<8):(yW t u i).set i (wV (Sha.ei (t.list.getD i 0) (u.list.getD i 0)))=yW t u (i+1):=by
 rcases at8 h with rfl|rfl|rfl|rfl|rfl|rfl|rfl|rfl<;>rfl
theorem yX(u:Sha.St)(i:Nat)(h:i<8):List.drop i (ef u)=wV (u.list.getD i 0)::(ef u).drop (i+1):=by
 rcases at8 h with rfl|rfl|rfl|rfl|rfl|rfl|rfl|rfl<;>rfl
theorem H8(u:Sha.St):(ef u).all AV.one=true:=rfl
theorem Jw(hG:Γ 1=Sha.K.map wV)(t:Sha.St)(ht:t.ok)(c:List UInt8)(hc:c.length=64)(s:AS):
  aj prog Γ 200 [.agg (ef t),al c .any] s (fun r s'=>r=.agg (ef (Sha.mix t c))∧s'=s):=by
 refine aa func200 rfl ntmps200 results200 (by simp) ?_;refine jQ fun K hK=>?_;intro o2 qG o4 CP;refine hK _ _ ?_;clear hK K;obtain⟨Jx,u6⟩:=AS.eW CP;clear CP;refine jS (Ai @Jx @Jx.symm) fun K hK=>?_;intro o5 ES;have HI:o5≠o4:=(by intro e;simp[e] at ES);have Pr:o5≠o2:=(by intro e;subst e;simp[HI] at ES);have GW:s.aw o5=none:=(by simpa[HI,Pr] using ES);clear ES;refine hK _ _ ?_;clear hK K;obtain⟨Z,hZ⟩:∃Z:List AV,Z=[wV 0,wV 0,wV 0,wV 0,wV 0,wV 0,wV 0,wV 0]:=⟨_,rfl⟩;have hZl:Z.length=8:=(by rw[hZ];rfl);rw[show([AV.v (.int .u32 0),AV.v (.int .u32 0),AV.v (.int .u32 0),AV.v (.int .u32 0),AV.v (.int .u32 0),AV.v (.int .u32 0),AV.v (.int .u32 0),AV.v (.int .u32 0)]:List AV)=Z from hZ.symm];refine wK fun K hK=>?_;refine jQ fun K hK=>?_;rw[show AV.sl 1 c.length (List.map ai c) .any=al c .any from rfl];refine ad (CO c hc _) ?_;rintro r sa ⟨rfl,rfl⟩;refine jR hK ?_;clear hK K;obtain⟨W,hW⟩:∃W,W=Sha.mf c 64:=⟨_,rfl⟩;have HM:W.length=64:=(by rw[hW,Sha.cz]);rw[←hW];refine ah ?_;refine aD (fun E s1=>∃i:Nat,i≤64∧E 2=.ptr o2 0∧E 4=.ptr o4 0∧E 5=.ptr o5 0∧E 15=.agg (W.map wV)∧E 16=.v (.int .i64 i)∧s1=((s.set o2 (ef t)).set o4 Z).set o5 (ef (Sha.rounds W t i)))
  (fun E _=>match E 16 with |.v (.int _ i)=>64-i.toNat|_=>0) ?_ ?_
 ·exact⟨0,by omega,by simp[aH],by simp[aH],by simp[aH],by simp[aH],by simp[aH],rfl⟩
 ·rintro E1 s1 ⟨i,hi,e2,e4,e5,JX,H9,rfl⟩ -
  by_cases aY:i<64
  ·have fj:(i:Int)<64:=(by omega);have Fx:(i:Int)<((64:Nat):Int):=(by omega);have fg:(0:Int)≤(i:Int):=(by omega);refine jB (Ai @H9 (decide_eq_true fj)) ?_;refine wK fun K2 aX=>?_;refine jE ?_;refine ab ?_;refine aX _ _ ?_;clear aX K2;refine wK fun K3 br=>?_;refine ah ?_;have hwi:=yV W i (by omega);have hki:=yV Sha.K i (by rw[show Sha.K.length=64 from rfl];omega);have iH:=Sha.uY (w:=W) ht i;have Q0:Sha.rounds W t (i+1)=(Sha.rounds W t i).step (Sha.K.getD i 0) (W.getD i 0):=rfl;generalize W.getD i 0=wi at *
   generalize Sha.K.getD i 0=ki at *
   generalize hu:Sha.rounds W t i=u at *
   have FF:List.drop i (Sha.K.map wV)=wV ki::List.drop (i+1) (Sha.K.map wV):=drop_cons _ _ _ hki;refine jB (Ai @JX (Ai @H9 (Ai @fg (Ai @fj (Ai @Fx @hwi))))) ?_;refine dC T.mixed [(o5,ef u)] [] [1,3] [] (by kernel_rfl) (by simp only[aG,aJ,and_true];simp[AS.set,aH]) ?_;intro K hK;simp only[↓bo,↓a7,da,cX,aL,aR,aG,aJ,List.any_cons,List.any_nil,List.contains_cons,List.contains_nil,Nat.reduceBEq,Bool.or_false,Bool.or_true,Bool.or_self,Bool.false_or,↓DN,Qa,Qb,Qc,Qd,Qe,Qf,Qg,Qh,reduceCtorEq,↓reduceIte,Na,Nb,Nc,Nk,Nf,Ng,Nh,Za,Zb,Zc,TT,e5,c8];refine hK _ _ ?_;clear hK K;refine dC T.mixed [(o5,ef u)] [3] [1,7,12] [] (by kernel_rfl) (by simp only[aG,aJ,and_true];simp[AS.set,aH]) ?_;intro K hK;simp only[↓bo,↓a7,da,cX,aL,aR,aG,aJ,List.any_cons,List.any_nil,List.contains_cons,List.contains_nil,Nat.reduceBEq,Bool.or_false,Bool.or_true,Bool.or_self,Bool.false_or,↓DN,Qa,Qb,Qc,Qd,Qe,Qf,Qg,Qh,reduceCtorEq,↓reduceIte,Na,Nb,Nc,Nk,Nf,Ng,Nh,Za,Zb,Zc,TT,e5,H9,c8];have GX:∀{a b:Nat},a<4294967296→b<4294967296→a &&& b<4294967296:=fun{a b}ha hb=>Nat.lt_of_le_of_lt Nat.and_le_left ha;have YW:∀{a b:Nat},a<4294967296→b<4294967296→a ^^^ b<4294967296:=fun{a b}ha hb=>Nat.xor_lt_two_pow (n:=32) ha hb;have hn:4294967295-u.e<4294967296:=(by omega);refine ad (tR u.e 6 11 25 iH.e (by omega) (by omega) (by omega) (by omega) (by omega) (by omega) _) ?_;rintro r sb ⟨rfl,rfl⟩;simp only[↓ca,↓bI,bN,↓bo,↓a7,da,cX,aL,aR,aG,aJ,List.any_cons,List.any_nil,DX,Nat.reduceBEq,↓DN,Qa,Qb,Qc,Qd,Qe,Qf,Qg,Qh,reduceCtorEq,↓reduceIte,Na,Nb,Nc,Nk,Nf,Ng,Nh,Za,Zb,Zc,TT,e5,H9,c8,hG,FF,fg,Fx,tQ,Am u.e u.f iH.e iH.f,YT u.e iH.e,Am (4294967295-u.e) u.g hn iH.g,pb (u.e &&& u.f) ((4294967295-u.e) &&& u.g) (GX iH.e iH.f) (GX hn iH.g)];refine hK _ _ ?_;clear hK K;refine dC T.mixed [(o5,ef u)] [1] [4,8,12,14] [] (by kernel_rfl) (by simp only[aG,aJ,and_true];simp[AS.set,aH]) ?_;intro K hK;simp only[↓bo,↓a7,da,cX,aL,aR,aG,aJ,List.any_cons,List.any_nil,List.contains_cons,List.contains_nil,Nat.reduceBEq,Bool.or_false,Bool.or_true,Bool.or_self,Bool.false_or,↓DN,Qa,Qb,Qc,Qd,Qe,Qf,Qg,Qh,reduceCtorEq,↓reduceIte,Na,Nb,Nc,Nk,Nf,Ng,Nh,Za,Zb,Zc,TT,e5,c8];refine ad (tR u.a 2 13 22 iH.a (by omega) (by omega) (by omega) (by omega) (by omega) (by omega) _) ?_;rintro r sb ⟨rfl,rfl⟩;simp only[↓ca,↓bI,bN,↓bo,↓a7,da,cX,aL,aR,aG,aJ,List.any_cons,List.any_nil,DX,Nat.reduceBEq,↓DN,Qa,Qb,Qc,Qd,Qe,Qf,Qg,Qh,reduceCtorEq,↓reduceIte,Na,Nb,Nc,Nk,Nf,Ng,Nh,Za,Zb,Zc,TT,e5,c8,tQ,Am u.a u.b iH.a iH.b,Am u.a u.c iH.a iH.c,Am u.b u.c iH.b iH.c,pb (u.a &&& u.b) (u.a &&& u.c) (GX iH.a iH.b) (GX iH.a iH.c),pb ((u.a &&& u.b) ^^^ (u.a &&& u.c)) (u.b &&& u.c) (YW (GX iH.a iH.b) (GX iH.a iH.c)) (GX iH.b iH.c)];refine hK _ _ ?_;clear hK K;refine jD (Ai @e5 (Ai @c8 @tQ)) ?_;simp only[ar,az,if_true,if_false];refine br _ _ ?_;clear br K3;refine jD (Ai @H9 (cN i (by omega))) ?_;refine⟨⟨i+1,by omega,e2,e4,e5,JX,rfl,?_⟩,?_⟩
   ·rw[Q0];simp only[ef,Sha.St.step,Sha.t1,Sha.t2]
   ·simp only[H9,aH,↓reduceIte];omega
  ·have fj:¬(i:Int)<64:=(by omega);obtain rfl:i=64:=(by omega);refine jB (Ai @H9 (decide_eq_false fj)) ?_;refine wK fun K2 aX=>?_;refine jF ?_;refine aC ?_;simp only[az,ar,if_true];clear aX K2;refine hK _ _ ?_;clear hK K;have Ps:Sha.mix t c=t.add (Sha.rounds W t 64):=(by rw[hW];rfl);rw[Ps];generalize Sha.rounds W t 64=u;rw[←Bs t u];refine wK fun K hK=>?_;refine jA ?_;refine ah ?_;refine aD (fun E s1=>∃i:Nat,i≤8∧E 2=.ptr o2 0∧E 4=.ptr o4 0∧E 5=.ptr o5 0∧E 83=.v (.int .i64 i)∧s1.aw o2=some (yW t u i)∧s1.aw o5=some (ef u)∧s1.aw o4=some Z∧s.le s1)
    (fun E _=>match E 83 with |.v (.int _ i)=>8-i.toNat|_=>0) ?_ ?_
   ·refine⟨0,by omega,e2,e4,e5,rfl,?_,AS.ae _ _ _,?_,AS.aE (AS.aE (AS.aE (AS.le.refl s) qG _) u6 _) GW _⟩
    ·rw[AS.ao _ Pr.symm,AS.ao _ Jx.symm,AS.ae]
    ·rw[AS.ao _ HI.symm,AS.ae]
   ·rintro E2 s2 ⟨i,hi,g2,g4,g5,Um,j2,j5,j4,hle⟩ -
    by_cases aY:i<8
    ·have fj:(i:Int)<8:=(by omega);have fg:(0:Int)≤(i:Int):=(by omega);refine jB (Ai @Um (decide_eq_true fj)) ?_;refine wK fun K2 aX=>?_;refine jE ?_;refine ab ?_;refine aX _ _ ?_;clear aX K2;refine wK fun K3 br=>?_;refine ah ?_;refine jB @Um ?_;have d2:=Bu t u i aY;have d5:=yX u i aY;have cr:=ER t u i aY;have hlen:=EP t u i hi;generalize t.list.getD i 0=x at *
     generalize u.list.getD i 0=y at *
     obtain⟨X,hX⟩:∃X,X=yW t u i:=⟨_,rfl⟩;rw[←hX] at d2 cr hlen j2;obtain⟨Y,hY⟩:∃Y,Y=ef u:=⟨_,rfl⟩;rw[←hY] at d5 j5;refine cD T.mixed [(o2,X),(o5,Y)] [] [2,5] [8] (by kernel_rfl) (by simp only[aG,aJ,and_true];simp[AS.set,aH,j2,j5]) ?_;intro K hK;simp only[↓bo,↓a7,da,cX,aL,aR,aG,aJ,List.any_cons,List.any_nil,List.contains_cons,List.contains_nil,Nat.reduceBEq,Bool.or_false,Bool.or_true,Bool.or_self,Bool.false_or,↓DN,Qa,Qb,Qc,Qd,Qe,Qf,Qg,Qh,reduceCtorEq,↓reduceIte,Na,Nb,Nc,Nk,Nf,Ng,Nh,Za,Zb,Zc,TT,g2,g5,Um,c8,fg,fj,d2,d5,Pr,Pr.symm,j2,j5,tQ,cr,hlen];refine⟨by omega,hK _ _ ?_⟩;clear hK K;simp only[ar,az,if_true,if_false];refine br _ _ ?_;clear br K3;refine jD (Ai @Um (cN i (by omega))) ?_;refine⟨⟨i+1,by omega,g2,g4,g5,rfl,AS.ae _ _ _,by rw[AS.ao _ Pr,j5,hY],by rw[AS.ao _ Jx];exact j4,AS.aE hle qG _⟩,?_⟩;simp only[Um,aH,↓reduceIte];omega
    ·have fj:¬(i:Int)<8:=(by omega);obtain rfl:i=8:=(by omega);refine jB (Ai @Um (decide_eq_false fj)) ?_;refine wK fun K2 aX=>?_;refine jF ?_;refine aC ?_;simp only[az,ar,if_true];clear aX K2;refine hK _ _ ?_;clear hK K;rw[Bt] at j2;have bT:=H8 (t.add u);have hlen:(ef (t.add u)).length=8:=rfl;have dM:List.take 8 (ef (t.add u))=ef (t.add u):=rfl;obtain⟨X,hX⟩:∃X,X=ef (t.add u):=⟨_,rfl⟩;rw[←hX] at j2 bT hlen dM⊢;refine jS (Ai @g2 (Ai @g4 (Ai @j2 (Ai @j4 (Ai @hlen (Ai @dM @bT)))))) fun K hK=>?_;rw[bB Z X (by omega)];refine⟨by omega,hK _ _ ?_⟩;clear hK K;refine a8 ?_;refine eF (v:=.agg X) (o:=o4) (off:=0) g4 (AS.ae _ _ _) (by rw[T.Sj];decide) (by simp only[↓DN,Qa,Qb,Qc,Qd,Qe,Qf,Qg,Qh,reduceCtorEq,↓reduceIte,Na,Nb,Nc,Nk,Nf,Ng,Nh,Za,Zb,Zc,TT,hlen,dM]) ?_;exact⟨_,s,AV.aB.refl _,AS.aE hle u6 _,rfl,rfl⟩
theorem rF:((0:Nat):Int)=0:=rfl
theorem GY(n:Nat)(hn:n≤2^45)(s:AS):
  aj prog Γ 216 [.v (.slice none 0 0),.v (.int .i64 (n:Int))] s (fun r s'=>dS s [] r s'):=by
 refine aa func216 rfl ntmps216 results216 (by simp) ?_;have zz:¬((n:Int)<0):=(by omega);have p9:di .i64 (n:Int) (di .i64 ((0:Nat):Int) ((0:Nat):Int))=(n:Int):=by
  rw[show di .i64 ((0:Nat):Int) ((0:Nat):Int)=0 from by decide,bR (by omega)];omega
 refine jA ?_;refine wK fun K hK=>?_;refine jB (decide_eq_false zz) ?_;refine jF ?_;refine ab ?_;refine hK _ _ ?_;clear hK K;refine wK fun K hK=>?_;refine jB @p9 ?_;have Bp:∀(E:Env)(r:AV)(s1:AS),E 0=r→dS s [] r s1→K E s1:=by
  intro E r s1 h0 h1;refine hK _ _ ?_;clear hK K;refine jB @h0 ?_;refine jI ?_;exact⟨_,_,AV.aB.refl _,AS.le.refl _,h1⟩
 clear hK;by_cases h0:n=0
 ·subst h0;refine jA ?_;refine wC fun X Y hX hY=>?_;simp only[UP,DF,Nc,↓reduceIte,DB];refine⟨fun h=>absurd h (by decide),fun _=>hY ?_⟩;clear hX hY X Y;refine ab ?_;exact Bp _ _ _ (by simp only[aH,bC,Nc,↓reduceIte];rfl) (dS.nil s)
 ·have hgt:(0:Int)<(n:Int):=(by omega);refine jB (decide_eq_true hgt) ?_;refine jE ?_;refine xY (k:=.i64) (e:=5) (z:=[.v (.int .u8 0)]) rfl rfl rfl (by decide) rfl rfl rfl (by decide) underlying23 underlying23 underlying3 ⟨T.z5,by rw[T.c5];decide,by rw[T.c5];rfl⟩ T.c5 ?_;intro ops;refine jP @rF ?_;refine⟨n,rfl,h0,by omega,by omega,fun t v ht=>?_⟩;exact Bp _ (.sl 1 0 [] (.own t 0)) _ rfl ⟨AS.bj (AS.le.refl s) ht 0,.inr ⟨t,0,ht,AS.jf _ _ _,rfl⟩⟩
def gl(ls:List (List UInt8)):List AV:=ls.map fun l=>al l .any
theorem yY(ls:List (List UInt8))(i:Nat)(h:i<ls.length):List.take 1 (List.drop i (gl ls))=[al ls[i] .any]:=by
 have :(gl ls)[i]? =some (al ls[i] .any):=(by simp[gl,h]);rw[drop_cons _ _ _ this];rfl
theorem Bv(ls:List (List UInt8))(i:Nat)(h:i<ls.length):(ls.take (i+1)).flatten=(ls.take i).flatten++ls[i]:=by
 rw[List.take_succ_eq_append_getElem h,List.flatten_append,List.flatten_cons,List.flatten_nil,List.append_nil]
theorem Ia(ls:List (List UInt8))(i:Nat):(ls.take i).flatten.length≤ls.flatten.length:=by
 have :ls.flatten=(ls.take i).flatten++(ls.drop i).flatten:=(by rw[←List.flatten_append,List.take_append_drop]);rw[this,List.length_append];omega
theorem kU(ls:List (List UInt8))(sp:Sp)(hn:ls.length≤2^45)(hl:ls.flatten.length≤2^45)(s:AS):
  aj prog Γ 186 [.sl 1 ls.length (gl ls) sp] s (fun r s'=>dS s ls.flatten r s'):=by
 refine aa func186 rfl ntmps186 results186 (by simp) ?_;refine jA ?_;refine jA ?_;refine wK fun K hK=>?_;refine jA ?_;refine ah ?_;refine aD (fun E s1=>∃i:Nat,i≤ls.length∧E 0=.sl 1 ls.length (gl ls) sp∧E 3=.v (.int .i64 ((ls.take i).flatten.length:Nat))∧E 9=.sl 1 ls.length (gl ls) sp∧E 10=.v (.int .i64 ls.length)∧E 11=.v (.int .i64 i)∧s1=s)
  (fun E _=>match E 11 with |.v (.int _ i)=>ls.length-i.toNat|_=>0) ?_ ?_
 ·exact⟨0,Nat.zero_le _,by simp[aH,bC],by simp[aH],by simp[aH,bC],by simp[aH],by simp[aH],rfl⟩
 ·rintro E1 s1 ⟨i,hi,e0,e3,e9,Un,wA,rfl⟩ -
  by_cases aY:i<ls.length
  ·have bJ:(i:Int)<(ls.length:Int):=(by omega);have cl:(0:Int)≤(i:Int):=(by omega);have pR:=Ia ls (i+1);have tS:=Bv ls i aY;have fb:=yY ls i aY;generalize ls[i]=l at *
   refine jB (Ai @Un (Ai @wA (decide_eq_true bJ))) ?_;refine wK fun K2 aX=>?_;refine jE ?_;refine ab ?_;refine aX _ _ ?_;clear aX K2;refine wK fun K3 br=>?_;refine ah ?_;refine jB (Ai @e9 (Ai @wA (Ai @cl (Ai @bJ @fb)))) ?_;have eR:ec .i64 ((ls.take i).flatten.length:Int) (l.length:Int)=((ls.take (i+1)).flatten.length:Int):=by
    rw[tS,List.length_append];rw[tS,List.length_append] at pR;exact fU _ _ (by omega)
   refine jB (Ai @e3 @eR) ?_;have zz:¬(((ls.take (i+1)).flatten.length:Int)<0):=(by omega);refine jB (decide_eq_false zz) ?_;refine jF ?_;refine ab ?_;simp only[az,ar,if_true,if_false];refine br _ _ ?_;clear br K3;refine jD (Ai @wA (cN i (by omega))) ?_;refine⟨⟨i+1,by omega,e0,rfl,e9,Un,rfl,rfl⟩,?_⟩;simp only[wA,aH,↓reduceIte];omega
  ·have bJ:¬(i:Int)<(ls.length:Int):=(by omega);obtain rfl:i=ls.length:=(by omega);rw[List.take_of_length_le (Nat.le_refl _)] at e3;refine jB (Ai @Un (Ai @wA (decide_eq_false bJ))) ?_;refine wK fun K2 aX=>?_;refine jF ?_;refine aC ?_;simp only[az,ar,if_true];clear aX K2;refine hK _ _ ?_;clear hK K;refine jS @e3 fun K hK=>?_;refine ad (GY ls.flatten.length hl _) ?_;intro r sa bu;refine jR hK ?_;clear hK K;refine wK fun K hK=>?_;refine jB @e0 ?_;refine ah ?_;refine aD (fun E s2=>∃i:Nat,i≤ls.length∧E 25=.sl 1 ls.length (gl ls) sp∧E 26=.v (.int .i64 ls.length)∧E 27=.v (.int .i64 i)∧dS s1 (ls.take i).flatten (E 6) s2)
    (fun E _=>match E 27 with |.v (.int _ i)=>ls.length-i.toNat|_=>0) ?_ ?_
   ·exact⟨0,Nat.zero_le _,rfl,rfl,rfl,by simpa only[aH,Nc,↓reduceIte,List.take_zero,List.flatten_nil] using bu⟩
   ·rintro E2 s2 ⟨i,hi,Uo,T6,YX,rZ⟩ -
    by_cases aY:i<ls.length
    ·have bJ:(i:Int)<(ls.length:Int):=(by omega);have cl:(0:Int)≤(i:Int):=(by omega);have pR:=Ia ls (i+1);have tS:=Bv ls i aY;have fb:=yY ls i aY;generalize ls[i]=l at *
     refine jB (Ai @T6 (Ai @YX (decide_eq_true bJ))) ?_;refine wK fun K2 aX=>?_;refine jE ?_;refine ab ?_;refine aX _ _ ?_;clear aX K2;refine wK fun K3 br=>?_;refine ah ?_;refine jB (Ai @Uo (Ai @YX (Ai @cl (Ai @bJ @fb)))) ?_;generalize tT:E2 6=r6 at rZ;refine jU @tT fun K hK=>?_;have hb:(ls.take i).flatten.length+l.length≤2^45:=by
      rw[tS,List.length_append] at pR;omega
     refine dk rZ rfl rfl T.c5 T.b5 hb ?_;intro r2 s3 Rh;rw[←tS] at Rh;refine hK _ _ ?_;clear hK K;simp only[az,ar,if_true,if_false];refine br _ _ ?_;clear br K3;refine jD (Ai @YX (cN i (by omega))) ?_;refine⟨⟨i+1,by omega,Uo,T6,rfl,by simpa only[aH,Nc,↓reduceIte] using Rh⟩,?_⟩;simp only[YX,aH,↓reduceIte];omega
    ·have bJ:¬(i:Int)<(ls.length:Int):=(by omega);obtain rfl:i=ls.length:=(by omega);rw[List.take_of_length_le (Nat.le_refl _)] at rZ;refine jB (Ai @T6 (Ai @YX (decide_eq_false bJ))) ?_;refine wK fun K2 aX=>?_;refine jF ?_;refine aC ?_;simp only[az,ar,if_true];clear aX K2;refine hK _ _ ?_;clear hK K;generalize tT:E2 6=r6 at rZ;refine jB @tT ?_;refine jI ?_;exact⟨_,_,AV.aB.refl _,AS.le.refl _,rZ⟩
theorem cn{s s':AS}{l:List UInt8}{r:AV}(h:dS s l r s')(h0:l≠[]):∃t e,r=.sl 1 l.length (l.map ai) (.own t e):=by
 rcases h.2 with⟨rfl,_⟩|⟨t,e,_,_,rfl⟩
 ·exact absurd rfl h0
 ·exact⟨t,e,rfl⟩
theorem Ib(a:Nat):iG (a:Int) 64=((a%64:Nat):Int):=lH a 64
theorem ET(n j:Nat)(h:j<8):(Sha.wF n)[j]? =some (UInt8.ofNat (8*n/2^(8*(7-j)))):=by
 have :j=0∨j=1∨j=2∨j=3∨j=4∨j=5∨j=6∨j=7:=(by omega);rcases this with rfl|rfl|rfl|rfl|rfl|rfl|rfl|rfl<;>simp[Sha.wF]
theorem EU{α:Type}(l:List α)(j:Nat)(x:α)(h:l[j]? =some x):l.take (j+1)=l.take j++[x]:=by
 obtain⟨h1,h2⟩:=List.getElem?_eq_some_iff.1 h;rw[List.take_succ_eq_append_getElem h1,h2]
theorem xe(x:Nat):ai (UInt8.ofNat x)=.v (.int .u8 (cG .u8 (x:Int))):=by
 rw[gE rfl];simp[ai,IntKind.bits]
theorem Pt(n j:Nat)(hj:j<8)(hn:n≤2^45):eJ .i64 (gO .i64 8 (n:Int)) (gO .i64 8 ((7-j:Nat):Int))=((8*n/2^(8*(7-j)):Nat):Int):=by
 rw[dI (by omega),dI (by omega),show(8:Int)*(n:Int)=((8*n:Nat):Int) from by omega,show(8:Int)*((7-j:Nat):Int)=((8*(7-j):Nat):Int) from by omega,hJ];simp only[IntKind.bits];rw[Nat.min_eq_left (by omega)]
theorem Ri{a b:Int}(h:a≠b):(a != b)=true:=by simpa using h
theorem Rj{a b:Int}(h:a=b):(a != b)=false:=by simpa using h
theorem Pu(n:Nat)(hn:n≤2^45)(j:Nat)(hj:j<8):¬(gO .i64 8 ((7-j:Nat):Int)<0):=by
 rw[dI (by omega)];omega
theorem CQ(l:List UInt8)(hl:l.length≤2^44)(s s1:AS)(r0:AV)(h:dS s l r0 s1):
  aj prog Γ 199 [r0] s1 (fun r s'=>dS s (Sha.pad l) r s'):=by
 refine aa func199 rfl ntmps199 results199 (by simp) ?_;refine jA ?_;refine wS fun K hK=>?_;have hc:∀E:Env,E 0=r0→E 3=.v (.int .i64 l.length)→K E s1:=by
  intro E e0 e3;refine hK _ _ ?_;clear hK K;refine wS fun K hK=>?_;simp only[↓DN,Qa,Qb,Qc,Qd,Qe,Qf,Qg,Qh,reduceCtorEq,↓reduceIte,Na,Nb,Nc,Nk,Nf,Ng,Nh,Za,Zb,Zc,TT,e0,List.replicate_one,Nat.lt_irrefl];refine dk (ds:=[128]) h rfl rfl T.c5 T.b5 (by simp;omega) ?_;intro r2 s2 h2;refine hK _ _ ?_;clear hK K;refine wK fun K hK=>?_;refine ah ?_;refine aD (fun E s2=>∃k:Nat,k≤Sha.gA l.length∧E 3=.v (.int .i64 l.length)∧dS s (l++[128]++List.replicate k 0) (E 0) s2)
   (fun E s2=>match E 0 with |.sl _ n _ _=>l.length+1+Sha.gA l.length-n|_=>0) ?_ ?_
  ·exact⟨0,Nat.zero_le _,e3,by simpa only[aH,↓reduceIte,List.replicate_zero,List.append_nil] using h2⟩
  ·rintro E2 s3 ⟨k,hk,g3,rZ⟩ -
   refine wK fun K2 aX=>?_;obtain⟨t,e,g0⟩:=cn rZ (by simp);have hlen:(l++[128]++List.replicate k 0).length=l.length+1+k:=(by simp;omega);generalize hL:l++[128]++List.replicate k 0=L at *
   have hLn:L≠[]:=(by intro e';rw[e'] at hlen;simp only[List.length_nil] at hlen;omega);by_cases tj:k=Sha.gA l.length
   ·have h56:L.length%64=56:=(by rw[hlen,tj,Sha.gA];omega);have hb:=Rj (show((L.length%64:Nat):Int)=56 by omega);refine jB (Ai @g0 (Ai @Ib @hb)) ?_;refine wC fun X Y hX hY=>?_;refine jP (Ai @DB @hb) ?_;refine hY ?_;clear hX hY X Y;refine aC ?_;simp only[az,ar,if_true];clear aX K2;refine hK _ _ ?_;clear hK K;rw[←g0];refine wK fun K hK=>?_;refine jA ?_;refine ah ?_;refine aD (fun E s2=>∃j:Nat,j≤8∧E 3=.v (.int .i64 l.length)∧E 4=.v (.int .i64 ((7:Int)-j))∧dS s (L++(Sha.wF l.length).take j) (E 0) s2)
     (fun E s2=>match E 4 with |.v (.int _ i)=>(i+1).toNat|_=>0) ?_ ?_
    ·exact⟨0,by omega,g3,rfl,by simpa only[aH,Nc,↓reduceIte,List.take_zero,List.append_nil] using rZ⟩
    ·rintro E3 s4 ⟨j,hj,f3,f4,wG⟩ -
     refine wK fun K2 aX=>?_;obtain⟨t',e',f0⟩:=cn wG (by simp[hLn]);by_cases kJ:j<8
     ·have cl:(0:Int)≤(7:Int)-j:=(by omega);refine jB (Ai @f4 (decide_eq_true cl)) ?_;refine jE ?_;refine ab ?_;refine aX _ _ ?_;clear aX K2;refine wK fun K3 br=>?_;refine ah ?_;have e7:(7:Int)-j=((7-j:Nat):Int):=(by omega);rw[e7] at f4;have ux:=Pu l.length (by omega) j kJ;have hsh:=Pt l.length j kJ (by omega);generalize tT:E3 0=r6 at wG;refine wE fun K hK=>?_;simp only[↓DN,Qa,Qb,Qc,Qd,Qe,Qf,Qg,Qh,reduceCtorEq,↓reduceIte,Na,Nb,Nc,Nk,Nf,Ng,Nh,Za,Zb,Zc,TT,tT,f3,f4,ux,hsh,List.replicate_one,Nat.lt_irrefl];refine dk (ds:=[UInt8.ofNat (8*l.length/2^(8*(7-j)))]) wG rfl (by rw[List.map_cons,xe];rfl) T.c5 T.b5 (by rw[List.length_append,List.length_take,hlen];unfold Sha.gA at hk;simp only[List.length_cons,List.length_nil];omega) ?_;intro r2 s5 h5;rw[List.append_assoc,←EU _ _ _ (ET l.length j kJ)] at h5;refine hK _ _ ?_;clear hK K;simp only[az,ar,if_true,if_false];refine br _ _ ?_;clear br K3;have xcv:di .i64 ((7-j:Nat):Int) 1=(7:Int)-((j+1:Nat):Int):=by
       rw[bR (by omega)];omega
      refine jD (Ai @f4 @xcv) ?_;refine⟨⟨j+1,by omega,f3,rfl,by simpa only[aH,Nc,↓reduceIte] using h5⟩,?_⟩;simp only[f4,aH,↓reduceIte];omega
     ·have cl:¬(0:Int)≤(7:Int)-j:=(by omega);obtain rfl:j=8:=(by omega);refine jB (Ai @f4 (decide_eq_false cl)) ?_;refine jF ?_;refine aC ?_;simp only[az,ar,if_true];clear aX K2;refine hK _ _ ?_;clear hK K;have qz:L++(Sha.wF l.length).take 8=Sha.pad l:=by
       rw[←hL,tj,Sha.pad,show(Sha.wF l.length).take 8=Sha.wF l.length from rfl];simp
      rw[qz] at wG;generalize tT:E3 0=r6 at wG;refine jB @tT ?_;refine jI ?_;exact⟨_,_,AV.aB.refl _,AS.le.refl _,wG⟩
   ·have h56:L.length%64≠56:=(by rw[hlen];unfold Sha.gA at hk tj;omega);have hb:=Ri (show((L.length%64:Nat):Int)≠56 by omega);refine jB (Ai @g0 (Ai @Ib @hb)) ?_;refine wC fun X Y hX hY=>?_;refine jP (Ai @DB @hb) ?_;refine hX ?_;clear hX hY X Y;refine ab ?_;refine aX _ _ ?_;clear aX K2;refine ah ?_;generalize tT:E2 0=r6 at rZ;refine wE fun K hK=>?_;simp only[↓DN,Qa,Qb,Qc,Qd,Qe,Qf,Qg,Qh,reduceCtorEq,↓reduceIte,Na,Nb,Nc,Nk,Nf,Ng,Nh,Za,Zb,Zc,TT,tT,List.replicate_one,Nat.lt_irrefl];refine dk (ds:=[0]) rZ rfl rfl T.c5 T.b5 (by rw[hlen];unfold Sha.gA at hk;simp;omega) ?_;intro r2 s2 h2;have hL2:L++[0]=l++[128]++List.replicate (k+1) 0:=(by rw[←hL,List.replicate_succ',List.append_assoc _ (List.replicate k 0)]);rw[hL2] at h2;refine hK _ _ ?_;clear hK K;simp only[az,ar,if_true,if_false];obtain⟨t2,e2,q0⟩:=cn h2 (by simp);refine⟨⟨k+1,by omega,g3,by simpa only[aH,↓reduceIte] using h2⟩,?_⟩;rw[tT] at g0;simp only[aH,↓reduceIte,tT,q0,g0,List.length_append,List.length_replicate,List.length_cons,List.length_nil,hlen];omega
 rcases h.2 with⟨rfl,rfl⟩|⟨t,e,_,_,rfl⟩
 ·refine jM ?_;exact hc _ (by simp only[aH,bC,Nc,↓reduceIte];rfl) rfl
 ·refine jM ?_;exact hc _ (by simp only[aH,bC,Nc,↓reduceIte];rfl) rfl
def qc(cs:List AV)(i:Nat):AV:=.sl 1 64 (List.drop (64*i) (List.take (64*i+64) cs)) .full
theorem EV(cs:List AV)(t e m:Nat)(hl:cs.length=64*m)(hm:m≤2^40):
  Qx prog Γ 232 [.dr [.sl 1 (64*m) cs (.own t e)],.dr [.v (.int .i64 64)]] ((List.range m).map (qc cs)):=by
 intro S l G W lb uA RX hs hy
 refine callsIn_of_wp func232 rfl trivial ?_
 have Sb:=Rel.entry (N:=31) (args:=[.v (.func (.yield l) #[] #[]),.dr [.sl 1 (64*m) cs (.own t e)],.dr [.v (.int .i64 64)]]) (vs:=.func (.yield l) #[] #[]::lb) hs (by simp only[au];exact⟨_,_,rfl,by simp[av],by simpa only[au] using RX⟩) (by simp) uA
 rw[show(#[.func (.yield l) #[] #[]]++lb.toArray:Array Value)=(.func (.yield l) #[] #[]::lb).toArray from by simp,ntmps232]
 refine wpIn_seq ?_
 refine lK (l:=none) (K:=fun E1 s1=>E1 0=.v (.func (.yield l) #[] #[])∧E1 1=.dr [.sl 1 (64*m) cs (.own t e)]∧E1 2=.dr [.v (.int .i64 64)]∧E1 4=.v (.int .i64 0)∧s1=S 0) ?_ Sb ?_
 ·simp only[↓DN,Qa,Qb,Qc,Qd,Qe,Qf,Qg,Qh,reduceCtorEq,↓reduceIte,Na,Nb,Nc,Nk,Nf,Ng,Nh,Za,Zb,Zc,TT]
 ·rintro G0 E0 s0 a0 w0 xcw Fw ⟨e0,e1,e2,e4,rfl⟩
  refine wpIn_block ?_
  refine wpIn_loop (fun a w=>∃(i:Nat)(G1:Gh)(E1:Env),i≤m∧G.le G1∧Rel Γ 31 G1 E1 (S i) a w∧E1 0=.v (.func (.yield l) #[] #[])∧E1 1=.dr [.sl 1 (64*m) cs (.own t e)]∧E1 2=.dr [.v (.int .i64 64)]∧E1 4=.v (.int .i64 ((64*i:Nat):Int)))
   (fun a _=>match a.tmps.getD 4 undef with |.int _ x=>64*m-x.toNat|_=>0) ⟨0,G0,E0,Nat.zero_le _,xcw,Fw,e0,e1,e2,e4⟩ ?_
  rintro a w ⟨i,G1,E1,hi,hle,hr,e0,e1,e2,e4⟩
  have YY:a.tmps.getD 4 undef=.int .i64 ((64*i:Nat):Int):=by
   have:=hr.tmps 4
   rw[e4] at this
   simpa only[av] using this
  refine wpIn_seq ?_
  by_cases aY:i<m
  ·have bJ:((64*i:Nat):Int)<((64*m:Nat):Int):=by omega
   refine cp.wide (Q:=fun x E' s'=>x=.normal∧s'=S i∧E' 0=.v (.func (.yield l) #[] #[])∧E' 1=.dr [.sl 1 (64*m) cs (.own t e)]∧E' 2=.dr [.v (.int .i64 64)]∧E' 4=.v (.int .i64 ((64*i:Nat):Int))) ?_ hr ?_
   ·refine jB (Ai @e1 (Ai @e4 (decide_eq_true bJ))) ?_
    refine jE ?_
    refine ab ?_
    simp only[aH,e0,e1,e2,e4,Nc,↓reduceIte,and_self]
   ·rintro x G2 E2 s2 a2 w2 ga qS ⟨rfl,rfl,f0,f1,f2,f4⟩
    refine wpIn_seq (wpIn_block (wpIn_seq ?_))
    have h0:(0:Int)≤((64*i:Nat):Int):=by omega
    have gQ:((64*i:Nat):Int)≤((64*m:Nat):Int):=by omega
    refine cp.wide (Q:=fun x E' s'=>x=.normal∧s'=S i∧E' 0=.v (.func (.yield l) #[] #[])∧E' 1=.dr [.sl 1 (64*m) cs (.own t e)]∧E' 2=.dr [.v (.int .i64 64)]∧E' 4=.v (.int .i64 ((64*i:Nat):Int))∧E' 5=.v (.int .i64 64)) ?_ qS ?_
    ·have BV:¬(((64*m-64*i:Nat):Int)<64):=by omega
     refine fq T.mixed [] (by kernel_rfl) ?_
     intro K hK
     refine jV (Ai @f1 (Ai @f2 (Ai @f4 (Ai @h0 (Ai @gQ (Ai @Int.le_refl @BV)))))) hK ?_;clear hK K
     simp only[aH,f0,f1,f2,f4,Nc,↓reduceIte,and_self]
    ·rintro x G3 E3 s3 a3 w3 Rk qR ⟨rfl,rfl,g0,g1,g2,g4,g5⟩
     refine wpIn_seq ?_
     have Pv:ec .i64 ((64*i:Nat):Int) 64=((64*i+64:Nat):Int):=fU (64*i) 64 (by omega)
     have BP:((64*i:Nat):Int)≤((64*i+64:Nat):Int):=by omega
     have C9:((64*i+64:Nat):Int)≤((64*m:Nat):Int):=by omega
     refine uB (l:=l)
      (K1:=fun E' s'=>s'=S i∧E' 0=.v (.func (.yield l) #[] #[])∧E' 1=.dr [.sl 1 (64*m) cs (.own t e)]∧E' 2=.dr [.v (.int .i64 64)]∧E' 4=.v (.int .i64 ((64*i:Nat):Int))∧E' 28=qc cs i)
      (K2:=fun E' s'=>s'=S (i+1)∧E' 0=.v (.func (.yield l) #[] #[])∧E' 1=.dr [.sl 1 (64*m) cs (.own t e)]∧E' 2=.dr [.v (.int .i64 64)]∧E' 4=.v (.int .i64 ((64*i:Nat):Int))∧E' 30=.v (.bool false))
      rfl rfl (by decide) ?_ qR ?_ ?_
     ·intro ops
      simp only[↓DN,Qa,Qb,Qc,Qd,Qe,Qf,Qg,Qh,reduceCtorEq,↓reduceIte,Na,Nb,Nc,Nk,Nf,Ng,Nh,Za,Zb,Zc,TT,g0,g1,g2,g4,g5,Pv,h0,BP,C9]
      rw[qc,show 64*i+64-64*i=64 by omega]
     ·rintro ops G4 E4 s4 a4 w4 eM Dd ⟨rfl,k0,k1,k2,k4,k28⟩
      have hu:=Dd.tmps 28
      rw[k28] at hu
      obtain⟨fn,tmps,assign,body,q1,q2⟩:=hy i (qc cs i) G4 (a4.tmps.getD 28 undef) w4 (by simp[aY]) (hle.trans (ga.trans (Rk.trans eM))) Dd.st hu
      refine⟨fn,tmps,assign,body,q1,RoundIn.mono (F:=Fence.wide) q2 ?_⟩
      rintro e' W' ⟨rfl,G5,b1,b2⟩
      refine⟨rfl,G5,S (i+1),b1,b2,?_⟩
      simp only[↓DN,Qa,Qb,Qc,Qd,Qe,Qf,Qg,Qh,reduceCtorEq,↓reduceIte,Na,Nb,Nc,Nk,Nf,Ng,Nh,Za,Zb,Zc,TT]
      simp only[aH,k0,k1,k2,k4,Nc,↓reduceIte,and_self]
     ·rintro G4 E4 s4 a4 w4 eM Dd ⟨rfl,k0,k1,k2,k4,k30⟩
      show Code.wpIn Fence.wide 0 _ (Code.cond _ _ _) _ a4 w4
      refine cp.wide (Q:=fun x E' s'=>x=.normal∧s'=S (i+1)∧E' 0=.v (.func (.yield l) #[] #[])∧E' 1=.dr [.sl 1 (64*m) cs (.own t e)]∧E' 2=.dr [.v (.int .i64 64)]∧E' 4=.v (.int .i64 ((64*i:Nat):Int))) ?_ Dd ?_
      ·refine fm k30 (ab ?_)
       simp only[k0,k1,k2,k4,and_self]
      ·rintro x G5 E5 s5 a5 w5 fR Oa ⟨rfl,rfl,q0,q1,q2,q4⟩
       show Code.wpIn Fence.wide 0 _ (Code.region _ _ _) _ a5 w5
       refine lK (l:=none) (K:=fun E' s'=>s'=S (i+1)∧E' 0=.v (.func (.yield l) #[] #[])∧E' 1=.dr [.sl 1 (64*m) cs (.own t e)]∧E' 2=.dr [.v (.int .i64 64)]∧E' 4=.v (.int .i64 ((64*(i+1):Nat):Int))) ?_ Oa ?_
       ·simp only[↓DN,Qa,Qb,Qc,Qd,Qe,Qf,Qg,Qh,reduceCtorEq,↓reduceIte,Na,Nb,Nc,Nk,Nf,Ng,Nh,Za,Zb,Zc,TT,q0,q1,q2,q4,Pv]
        rfl
       ·rintro G6 E6 s6 a6 w6 ew tT ⟨rfl,p0,p1,p2,p4⟩
        refine⟨⟨i+1,G6,E6,aY,hle.trans (ga.trans (Rk.trans (eM.trans (fR.trans ew)))),tT,p0,p1,p2,p4⟩,?_⟩
        have:=tT.tmps 4
        rw[p4] at this
        simp only[av] at this
        rw[this,YY]
        simp only[Int.toNat_natCast]
        omega
  ·obtain rfl:i=m:=by omega
   have bJ:¬((64*i:Nat):Int)<((64*i:Nat):Int):=by omega
   refine cp.wide (Q:=fun x E' s'=>x=.exit 0∧s'=S i) ?_ hr ?_
   ·refine jB (Ai @e1 (Ai @e4 (decide_eq_false bJ))) ?_
    refine jF ?_
    refine aC ?_
    exact⟨rfl,rfl⟩
   ·rintro x G2 E2 s2 a2 w2 ga qS ⟨rfl,rfl⟩
    refine⟨qS.defers.trans (ga.df.trans (hle.df.trans uA)),.tuple #[],?_,⟨_,rfl⟩,G2,hle.trans ga,by simpa using qS.st⟩
    rw[lG,results232]
    simp
theorem EW(cs:List AV)(n t e:Nat)(s:AS):
  aj prog Γ 198 [.sl 1 n cs (.own t e),.v (.int .i64 64)] s (fun r s'=>r=.qx 232 [.dr [.sl 1 n cs (.own t e)],.dr [.v (.int .i64 64)]]∧s'=s):=by
 refine aa func198 rfl ntmps198 results198 (by simp) ?_;refine ic 2 3 (by decide) (by decide) (by decide) ?_;intro K hK;refine jM ?_;intro o1 h1 o2 h2;refine hK _ _ o1 o2 _ _ rfl rfl h1 (by rw[AS.gK];exact h2) ?_;clear hK K;refine wK fun K hK=>?_;refine jA ?_;refine jF ?_;refine ab ?_;refine hK _ _ ?_;clear hK K;refine jA ?_;exact jJ
theorem Bw(l:List UInt8)(i:Nat)(h:64*(i+1)≤l.length):qc (l.map ai) i=.sl 1 64 ((Sha.nE l i).map ai) .full∧(Sha.nE l i).length=64:=by
 have e1:Sha.nE l i=List.drop (64*i) (List.take (64*i+64) l):=by
  rw[Sha.nE,List.drop_take];congr 1;omega
 constructor
 ·rw[qc,e1];simp only[List.map_drop,List.map_take]
 ·simp only[Sha.nE,List.length_take,List.length_drop];omega
def Jy(t:Sha.St)(i:Nat):List UInt8:=((t.list.take i).map Sha.be).flatten
theorem Bx(t:Sha.St)(i:Nat)(h:i<8):Jy t i++Sha.be (t.list.getD i 0)=Jy t (i+1):=by
 rcases at8 h with rfl|rfl|rfl|rfl|rfl|rfl|rfl|rfl<;>rfl
theorem YZ(x:AV):List.replicate 4 x=[x,x,x,x]:=rfl
theorem Bz(t:Sha.St):Jy t 8=t.bytes:=rfl
theorem EX(t:Sha.St)(i:Nat)(h:i≤8):(Jy t i).length=4*i:=by
 rcases Nat.lt_or_ge i 8 with h'|h'
 ·rcases at8 h' with rfl|rfl|rfl|rfl|rfl|rfl|rfl|rfl<;>rfl
 ·obtain rfl:i=8:=(by omega);rfl
theorem Pw(t:Sha.St)(i:Nat)(h:i<8):(ef t)[i]? =some (wV (t.list.getD i 0)):=by
 rcases at8 h with rfl|rfl|rfl|rfl|rfl|rfl|rfl|rfl<;>rfl
theorem lq(dO:Γ 0=ef Sha.H0)(hG:Γ 1=Sha.K.map wV)(ls:List (List UInt8))(sp:Sp)(hn:ls.length≤2^40)(hl:ls.flatten.length≤2^40)(s:AS):
  aj prog Γ 164 [.sl 1 ls.length (gl ls) sp] s (fun r s'=>dS s (Sha.sum ls.flatten) r s'):=by
 generalize pR:ls.flatten=l at *
 have hf:=func164
 refine oD hf rfl (by rw[ntmps164];simp) ?_
 rw[ntmps164]
 intro G a w uA hr
 refine wpIn_seq ?_
 refine lK (l:=none) (K:=fun E' s'=>s'=s∧E' 0=.sl 1 ls.length (gl ls) sp) ?_ hr ?_
 ·simp only[↓DN,Qa,Qb,Qc,Qd,Qe,Qf,Qg,Qh,reduceCtorEq,↓reduceIte,Na,Nb,Nc,Nk,Nf,Ng,Nh,Za,Zb,Zc,TT]
 ·rintro G1 E1 s1 a1 w1 pc qQ ⟨rfl,e0⟩
  refine wpIn_seq ?_
  refine lK (l:=none) (K:=fun E' s'=>∃o3,s1.aw o3=none∧s'=s1.set o3 (ef Sha.H0)∧E' 0=.sl 1 ls.length (gl ls) sp∧E' 3=.ptr o3 0) ?_ qQ ?_
  ·simp only[↓DN,Qa,Qb,Qc,Qd,Qe,Qf,Qg,Qh,reduceCtorEq,↓reduceIte,Na,Nb,Nc,Nk,Nf,Ng,Nh,Za,Zb,Zc,TT,dO]
   intro o ho
   exact⟨o,ho,rfl,e0,rfl⟩
  ·rintro G2 E2 s2 a2 w2 ga qS ⟨o3,An,rfl,f0,f3⟩
   refine wpIn_seq (wpIn_seq ?_)
   have AF:=Sha.rX l
   have hpm:=Sha.H5 l
   obtain⟨m,hm⟩:∃m,(Sha.pad l).length=64*m:=⟨(Sha.pad l).length/64,by omega⟩
   have hz:Sha.gA l.length<64:=by rw[Sha.gA];omega
   refine lK (l:=none) (K:=fun E' s'=>∃t e,(s1.set o3 (ef Sha.H0)).le s'∧E' 3=.ptr o3 0∧E' 12=.qx 232 [.dr [.sl 1 (64*m) ((Sha.pad l).map ai) (.own t e)],.dr [.v (.int .i64 64)]]) ?_ qS ?_
   ·simp only[↓DN,Qa,Qb,Qc,Qd,Qe,Qf,Qg,Qh,reduceCtorEq,↓reduceIte,Na,Nb,Nc,Nk,Nf,Ng,Nh,Za,Zb,Zc,TT,f0]
    refine ad (kU ls sp (by omega) (by rw[pR];omega) _) ?_
    intro r sa bu
    rw[pR] at bu
    simp only[↓DN,Qa,Qb,Qc,Qd,Qe,Qf,Qg,Qh,reduceCtorEq,↓reduceIte,Na,Nb,Nc,Nk,Nf,Ng,Nh,Za,Zb,Zc,TT]
    refine ad (CQ l (by omega) _ _ _ bu) ?_
    intro r sb bu
    obtain⟨t,e,Fw⟩:=cn bu (by rw[←List.length_pos_iff];omega)
    rw[Fw,hm] at *
    simp only[↓DN,Qa,Qb,Qc,Qd,Qe,Qf,Qg,Qh,reduceCtorEq,↓reduceIte,Na,Nb,Nc,Nk,Nf,Ng,Nh,Za,Zb,Zc,TT]
    refine ad (EW _ _ t e _) ?_
    rintro r sc ⟨rfl,rfl⟩
    simp only[↓DN,Qa,Qb,Qc,Qd,Qe,Qf,Qg,Qh,reduceCtorEq,↓reduceIte,Na,Nb,Nc,Nk,Nf,Ng,Nh,Za,Zb,Zc,TT]
    exact⟨t,e,bu.1,f3,rfl⟩
   ·rintro G3 E3 s3 a3 w3 gQ qR ⟨t,e,hse,g3,g12⟩
    refine wpIn_block ?_
    have Ic:G.le G3:=pc.trans (ga.trans gQ)
    have Y0:G3.df=[]:=Ic.df.trans uA
    have Rl:s3.aw o3=some (ef Sha.H0):=hse.aw _ _ (AS.ae _ _ _)
    have Y3:m≤2^40:=by omega
    refine wpIn_mono (xX (p:=13) (g:=.tmp 12) qR Y0 g12 (by kernel_rfl) (EV ((Sha.pad l).map ai) t e m (by simpa using hm) Y3) (by decide) (fun i=>s3.set o3 (ef (Sha.hash (Sha.pad l) i))) (AS.Kx Rl) (fun x=>aH (aH E3 13 x) 4 x) ?_ ?_) ?_
    ·rintro lp i x G4 a4 W hx Dd
     refine lK (l:=some lp) (K:=fun E' s'=>E'=aH (aH E3 13 x) 4 x∧s'=s3.set o3 (ef (Sha.hash (Sha.pad l) i))) ?_ Dd ?_
     ·simp only[↓DN,Qa,Qb,Qc,Qd,Qe,Qf,Qg,Qh,reduceCtorEq,↓reduceIte,Na,Nb,Nc,Nk,Nf,Ng,Nh,Za,Zb,Zc,TT]
     ·rintro G5 E5 s5 a5 w5 fR Oa ⟨rfl,rfl⟩
      exact⟨rfl,G5,fR,Oa⟩
    ·rintro lp i x G4 a4 W hx Dd
     refine wpIn_block ?_
     have hi:i<m:=by
      have:=(List.getElem?_eq_some_iff.1 hx).1
      simpa using this
     obtain rfl:qc ((Sha.pad l).map ai) i=x:=by simpa[hi] using hx
     obtain⟨Uk,iF⟩:=Bw (Sha.pad l) i (by omega)
     refine lK (l:=some lp) (K:=fun E' s'=>s'=s3.set o3 (ef (Sha.hash (Sha.pad l) (i+1)))) ?_ Dd ?_
     ·simp only[↓DN,Qa,Qb,Qc,Qd,Qe,Qf,Qg,Qh,reduceCtorEq,↓reduceIte,Na,Nb,Nc,Nk,Nf,Ng,Nh,Za,Zb,Zc,TT,g3]
      rw[Uk]
      have Iz:=Jw hG (Sha.hash (Sha.pad l) i) (Sha.H6 _ i) (Sha.nE (Sha.pad l) i) iF (s3.set o3 (ef (Sha.hash (Sha.pad l) i)))
      rw[al,iF] at Iz
      refine ad (aj.gL (.cons (.refl _) (.cons AV.bQ .nil)) Iz) ?_
      rintro r sd ⟨rfl,rfl⟩
      simp only[↓DN,Qa,Qb,Qc,Qd,Qe,Qf,Qg,Qh,reduceCtorEq,↓reduceIte,Na,Nb,Nc,Nk,Nf,Ng,Nh,Za,Zb,Zc,TT,g3]
      rfl
     ·rintro G5 E5 s5 a5 w5 fR Oa rfl
      exact⟨rfl,G5,fR,Oa.st⟩
    ·rintro x a4 w4 ⟨rfl,D,G4,eM,hD,hDk,rfl,Nu⟩
     have Nq:((List.range m).map (qc ((Sha.pad l).map ai))).length=m:=by simp
     rw[Nq] at Nu
     obtain⟨u,hu⟩:∃u,u=Sha.hash (Sha.pad l) m:=⟨_,rfl⟩
     have Ta:u.bytes=Sha.sum l:=by rw[hu,Sha.sum,hm,Nat.mul_div_cancel_left _ (by decide)]
     rw[←hu] at Nu
     have Rm:s1.le (s3.set o3 (ef u)):=by
      refine AS.aE (AS.le.trans ?_ hse) An _
      exact AS.aE (AS.le.refl s1) An _
     have CP:(s3.set o3 (ef u)).aw o3=some (ef u):=AS.ae _ _ _
     obtain⟨s4,xcx⟩:∃s4,s4=s3.set o3 (ef u):=⟨_,rfl⟩
     rw[←xcx] at Nu Rm CP
     show Code.wpIn Fence.wide 0 _ _ _ _ w4
     refine cp.behind (Q:=cf prog f164.results.toList (fun r s'=>dS s1 (Sha.sum l) r s')) qR eM hDk Nu Y0 ?_ ?_
     ·refine jA ?_
      refine wK fun K hK=>?_
      refine jB (Ai @g3 @CP) ?_
      refine ah ?_
      obtain⟨Z0,hZ0⟩:∃Z0,Z0=ef u:=⟨_,rfl⟩
      refine aD (fun E s2=>∃i:Nat,i≤8∧E 17=.agg Z0∧E 18=.v (.int .i64 i)∧dS s1 (Jy u i) (E 5) s2)
       (fun E _=>match E 18 with |.v (.int _ i)=>8-i.toNat|_=>0) ?_ ?_
      ·exact⟨0,by omega,by simp only[aH,Nc,↓reduceIte,hZ0],by simp only[aH,↓reduceIte];rfl,Rm,.inl ⟨rfl,by simp only[aH,Nc,↓reduceIte]⟩⟩
      ·rintro E5 s5 ⟨i,hi,p17,Y4,yZ⟩ -
       by_cases aY:i<8
       ·have fj:(i:Int)<8:=by omega
        have fg:(0:Int)≤(i:Int):=by omega
        refine jB (Ai @Y4 (decide_eq_true fj)) ?_
        refine wK fun K2 aX=>?_
        refine jE ?_
        refine ab ?_
        refine aX _ _ ?_;clear aX K2
        refine wK fun K3 br=>?_
        refine ah ?_
        have fb:=Pw u i aY
        rw[←hZ0] at fb
        have tS:=Bx u i aY
        have NH:=EX u i hi
        generalize u.list.getD i 0=x at *
        have KN:eJ .u32 (x:Int) 24=((x/2^24:Nat):Int):=uZ x 24 (by decide)
        have JW:eJ .u32 (x:Int) 16=((x/2^16:Nat):Int):=uZ x 16 (by decide)
        have s8:eJ .u32 (x:Int) 8=((x/2^8:Nat):Int):=uZ x 8 (by decide)
        refine jB (Ai @p17 (Ai @Y4 (Ai @fg (Ai @fj (Ai @c8 @fb))))) ?_
        generalize tT:E5 5=r6 at yZ
        refine jU (Ai @tT (Ai @KN (Ai @JW (Ai @s8 @YZ)))) fun K hK=>?_
        refine dk (ds:=Sha.be x) yZ rfl (by simp only[Sha.be,List.map_cons,List.map_nil,xe]) T.c5 T.b5 (by rw[NH];simp only[Sha.be,List.length_cons,List.length_nil];omega) ?_
        intro r2 s6 h6
        rw[tS] at h6
        refine hK _ _ ?_
        clear hK
        simp only[az,ar,if_true,if_false]
        refine br _ _ ?_;clear br K3
        refine jD (Ai @Y4 (cN i (by omega))) ?_
        refine⟨⟨i+1,by omega,by simp only[aH,p17,Nc,↓reduceIte],by simp only[aH,↓reduceIte],by simpa only[aH,Nc,↓reduceIte] using h6⟩,?_⟩
        simp only[Y4,aH,↓reduceIte]
        omega
       ·have fj:¬(i:Int)<8:=by omega
        obtain rfl:i=8:=by omega
        refine jB (Ai @Y4 (decide_eq_false fj)) ?_
        refine wK fun K2 aX=>?_
        refine jF ?_
        refine aC ?_
        simp only[az,ar,if_true]
        clear aX K2
        refine hK _ _ ?_;clear hK K
        rw[Bz,Ta] at yZ
        generalize tT:E5 5=r6 at yZ
        refine jB @tT ?_
        refine a8 ?_
        rw[results164]
        simp only[cf,bt,bD,c7,List.toList_toArray,↓bf];try simp only[UP,DF,Nc,↓reduceIte,DT]
        exact⟨_,_,AV.aB.refl _,AS.le.refl _,yZ⟩
     ·intro e5 G5 E5 s5 a5 w5 fR hD5 xcy Oa Tb
      refine⟨?_,D,G5,E5,s5,Ic.trans fR,?_,hD5,xcy,Oa,?_⟩
      ·cases e5<;>simp only[cf] at Tb<;>simp
      ·have q1:=qR.st.below.size
       have q2:=qR.st.base
       rw[Ic.w0] at q1
       rw[Ic.B] at q2
       exact⟨Nat.le_trans q1 hD,Nat.le_trans q2 hD⟩
      ·cases e5<;>simp only[cf] at Tb<;>exact Tb
theorem Px(n:Nat)(h:n≤2^45):gO .u64 (cG .u64 (n:Int)) 8=((8*n*2^(8*0)%18446744073709551616:Nat):Int):=by
 rw[gE rfl,show(8:Int)=((8:Nat):Int) from rfl,BZ rfl];simp only[IntKind.bits];congr 1;omega
theorem Mm(n j:Nat)(hj:j<8):cG .u8 (eJ .u64 ((8*n*2^(8*j)%18446744073709551616:Nat):Int) 56)=cG .u8 ((8*n/2^(8*(7-j)):Nat):Int):=by
 rw[show(56:Int)=((56:Nat):Int) from rfl,hJ,gE rfl,gE rfl];simp only[IntKind.bits];congr 1;rw[show min 56 64=56 from rfl];have :j=0∨j=1∨j=2∨j=3∨j=4∨j=5∨j=6∨j=7:=(by omega);rcases this with rfl|rfl|rfl|rfl|rfl|rfl|rfl|rfl<;>simp only[Nat.reduceMul,Nat.reduceSub,Nat.reducePow]<;>omega
theorem Py(n j:Nat)(hj:j<8):kj .u64 ((8*n*2^(8*j)%18446744073709551616:Nat):Int) 8=((8*n*2^(8*(j+1))%18446744073709551616:Nat):Int):=by
 rw[show(8:Int)=((8:Nat):Int) from rfl,rC rfl];simp only[IntKind.bits];congr 1;rw[show min 8 64=8 from rfl];have :j=0∨j=1∨j=2∨j=3∨j=4∨j=5∨j=6∨j=7:=(by omega);rcases this with rfl|rfl|rfl|rfl|rfl|rfl|rfl|rfl<;>simp only[Nat.reduceMul,Nat.reduceAdd,Nat.reducePow]<;>omega
theorem CR(l:List UInt8)(hl:l.length≤2^44)(s:AS):
  aj prog Γ 209 [.v (.string ⟨l.toArray⟩)] s (fun r s'=>dS s (Sha.pad l) r s'):=by
 refine aa func209 rfl ntmps209 results209 (by simp) ?_;refine jA ?_;refine Ca rfl (by decide) ?_;intro ops;refine jM ?_;refine⟨fun r s'=>dS s l r s',fun G a w hr=>?_,?_⟩
 ·exact B9 (l:=l) (src:=9) (dst:=23) (e:=5) (x:=.tmp 6) rfl underlying9 underlying23 underlying5 (by simp only[aO,aH,↓reduceIte]) hr.eval hr.st
 intro r s1 h1;simp only[↓DN,Qa,Qb,Qc,Qd,Qe,Qf,Qg,Qh,reduceCtorEq,↓reduceIte,Na,Nb,Nc,Nk,Nf,Ng,Nh,Za,Zb,Zc,TT,List.replicate_one,Nat.lt_irrefl];refine dk (ds:=[128]) h1 rfl rfl T.c5 T.b5 (by simp;omega) ?_;intro r2 s2 h2;refine wK fun K hK=>?_;refine ah ?_;refine aD (fun E s2=>∃k:Nat,k≤Sha.gA l.length∧E 0=.v (.string ⟨l.toArray⟩)∧dS s (l++[128]++List.replicate k 0) (E 3) s2)
  (fun E s2=>match E 3 with |.sl _ n _ _=>l.length+1+Sha.gA l.length-n|_=>0) ?_ ?_
 ·exact⟨0,Nat.zero_le _,by simp only[aH,bC,Nc,↓reduceIte,List.getD_cons_zero],by simpa only[aH,↓reduceIte,List.replicate_zero,List.append_nil] using h2⟩
 ·rintro E2 s3 ⟨k,hk,g0',rZ⟩ -
  refine wK fun K2 aX=>?_;obtain⟨t,e,g0⟩:=cn rZ (by simp);have hlen:(l++[128]++List.replicate k 0).length=l.length+1+k:=(by simp;omega);generalize hL:l++[128]++List.replicate k 0=L at *
  have hLn:L≠[]:=(by intro e';rw[e'] at hlen;simp only[List.length_nil] at hlen;omega);by_cases tj:k=Sha.gA l.length
  ·have h56:L.length%64=56:=(by rw[hlen,tj,Sha.gA];omega);have hb:=Rj (show((L.length%64:Nat):Int)=56 by omega);refine jB (Ai @g0 (Ai @Ib @hb)) ?_;refine wC fun X Y hX hY=>?_;refine jP (Ai @DB @hb) ?_;refine hY ?_;clear hX hY X Y;refine aC ?_;simp only[az,ar,if_true];clear aX K2;refine hK _ _ ?_;clear hK K;rw[←g0];have NH:=Px l.length (by omega);refine jB (Ai @g0' (Ai @ej @NH)) ?_;refine wK fun K hK=>?_;refine jA ?_;refine ah ?_;refine aD (fun E s2=>∃j:Nat,j≤8∧E 4=.v (.int .u64 ((8*l.length*2^(8*j)%18446744073709551616:Nat):Int))∧E 5=.v (.int .i64 j)∧dS s (L++(Sha.wF l.length).take j) (E 3) s2)
    (fun E s2=>match E 5 with |.v (.int _ i)=>8-i.toNat|_=>0) ?_ ?_
   ·exact⟨0,by omega,by simp only[aH,Nc,↓reduceIte,Nat.mul_zero,Nat.pow_zero,Nat.mul_one],rfl,by simpa only[aH,Nc,↓reduceIte,List.take_zero,List.append_nil] using rZ⟩
   ·rintro E3 s4 ⟨j,hj,f4,f5,wG⟩ -
    refine wK fun K2 aX=>?_;by_cases kJ:j<8
    ·have cl:(j:Int)<8:=(by omega);refine jB (Ai @f5 (decide_eq_true cl)) ?_;refine jE ?_;refine ab ?_;refine aX _ _ ?_;clear aX K2;refine wK fun K3 br=>?_;refine ah ?_;have hby:=Mm l.length j kJ;have hsh:=Py l.length j kJ;generalize 8*l.length*2^(8*j)%18446744073709551616=y at *
     generalize tT:E3 3=r6 at wG;refine wS fun K hK=>?_;simp only[↓DN,Qa,Qb,Qc,Qd,Qe,Qf,Qg,Qh,reduceCtorEq,↓reduceIte,Na,Nb,Nc,Nk,Nf,Ng,Nh,Za,Zb,Zc,TT,tT,f4,hby,List.replicate_one,Nat.lt_irrefl];refine dk (ds:=[UInt8.ofNat (8*l.length/2^(8*(7-j)))]) wG rfl (by rw[List.map_cons,xe];rfl) T.c5 T.b5 (by rw[List.length_append,List.length_take,hlen];unfold Sha.gA at hk;simp only[List.length_cons,List.length_nil];omega) ?_;intro r2 s5 h5;rw[List.append_assoc,←EU _ _ _ (ET l.length j kJ)] at h5;refine hK _ _ ?_;clear hK K;refine jD (Ai @f4 @hsh) ?_;simp only[az,ar,if_true,if_false];refine br _ _ ?_;clear br K3;refine jD (Ai @f5 (cN j (by omega))) ?_;refine⟨⟨j+1,by omega,rfl,rfl,by simpa only[aH,Nc,↓reduceIte] using h5⟩,?_⟩;simp only[f5,aH,↓reduceIte];omega
    ·have cl:¬(j:Int)<8:=(by omega);obtain rfl:j=8:=(by omega);refine jB (Ai @f5 (decide_eq_false cl)) ?_;refine jF ?_;refine aC ?_;simp only[az,ar,if_true];clear aX K2;refine hK _ _ ?_;clear hK K;have qz:L++(Sha.wF l.length).take 8=Sha.pad l:=by
      rw[←hL,tj,Sha.pad,show(Sha.wF l.length).take 8=Sha.wF l.length from rfl];simp
     rw[qz] at wG;generalize tT:E3 3=r6 at wG;refine jB @tT ?_;refine jI ?_;exact⟨_,_,AV.aB.refl _,AS.le.refl _,wG⟩
  ·have h56:L.length%64≠56:=(by rw[hlen];unfold Sha.gA at hk tj;omega);have hb:=Ri (show((L.length%64:Nat):Int)≠56 by omega);refine jB (Ai @g0 (Ai @Ib @hb)) ?_;refine wC fun X Y hX hY=>?_;refine jP (Ai @DB @hb) ?_;refine hX ?_;clear hX hY X Y;refine ab ?_;refine aX _ _ ?_;clear aX K2;refine ah ?_;generalize tT:E2 3=r6 at rZ;refine wE fun K hK=>?_;simp only[↓DN,Qa,Qb,Qc,Qd,Qe,Qf,Qg,Qh,reduceCtorEq,↓reduceIte,Na,Nb,Nc,Nk,Nf,Ng,Nh,Za,Zb,Zc,TT,tT,List.replicate_one,Nat.lt_irrefl];refine dk (ds:=[0]) rZ rfl rfl T.c5 T.b5 (by rw[hlen];unfold Sha.gA at hk;simp;omega) ?_;intro r2 s2 h2;have hL2:L++[0]=l++[128]++List.replicate (k+1) 0:=(by rw[←hL,List.replicate_succ',List.append_assoc _ (List.replicate k 0)]);rw[hL2] at h2;refine hK _ _ ?_;clear hK K;simp only[az,ar,if_true,if_false];obtain⟨t2,e2,q0⟩:=cn h2 (by simp);refine⟨⟨k+1,by omega,g0',by simpa only[aH,↓reduceIte] using h2⟩,?_⟩;rw[tT] at g0;simp only[aH,↓reduceIte,tT,q0,g0,List.length_append,List.length_replicate,List.length_cons,List.length_nil,hlen];omega
theorem Pz(a b c d:UInt8):FJ .u32 (FJ .u32 (FJ .u32 (kj .u32 (cG .u32 (a.toNat:Int)) 24) (kj .u32 (cG .u32 (b.toNat:Int)) 16)) (kj .u32 (cG .u32 (c.toNat:Int)) 8)) (cG .u32 (d.toNat:Int))=((Sha.GP a.toNat b.toNat c.toNat d.toNat:Nat):Int):=by
 have ha:=a.toNat_lt;have hb:=b.toNat_lt;have hc:=c.toNat_lt;have hd:=d.toNat_lt;have e1:∀x:UInt8,cG .u32 (x.toNat:Int)=((x.toNat:Nat):Int):=fun x=>by
  have:=x.toNat_lt;rw[gE rfl];simp only[IntKind.bits];congr 1;omega
 have KN:∀x:Nat,x<256→kj .u32 (x:Int) 24=((x*16777216:Nat):Int):=fun x hx=>by
  have:=Mf x 24 (by decide);rw[show((24:Nat):Int)=24 from rfl] at this;rw[this];congr 1;simp only[Nat.reducePow];omega
 have JW:∀x:Nat,x<256→kj .u32 (x:Int) 16=((x*65536:Nat):Int):=fun x hx=>by
  have:=Mf x 16 (by decide);rw[show((16:Nat):Int)=16 from rfl] at this;rw[this];congr 1;simp only[Nat.reducePow];omega
 have s8:∀x:Nat,x<256→kj .u32 (x:Int) 8=((x*256:Nat):Int):=fun x hx=>by
  have:=Mf x 8 (by decide);rw[show((8:Nat):Int)=8 from rfl] at this;rw[this];congr 1;simp only[Nat.reducePow];omega
 rw[e1,e1,e1,e1];generalize a.toNat=a at *
 generalize b.toNat=b at *
 generalize c.toNat=c at *
 generalize d.toNat=d at *
 rw[KN a ha,JW b hb,s8 c hc];have o1:a*16777216 ||| b*65536=a*16777216+b*65536:=by
  have:=Nat.shiftLeft_add_eq_or_of_lt (b:=b*65536) (i:=24) (by simp only[Nat.reducePow];omega) a;rw[Nat.shiftLeft_eq] at this;simp only[Nat.reducePow] at this;exact this.symm
 have o2:(a*16777216+b*65536) ||| c*256=a*16777216+b*65536+c*256:=by
  have:=Nat.shiftLeft_add_eq_or_of_lt (b:=c*256) (i:=16) (by simp only[Nat.reducePow];omega) (a*256+b);rw[Nat.shiftLeft_eq] at this;simp only[Nat.reducePow] at this;have e:(a*256+b)*65536=a*16777216+b*65536:=(by simp only[Nat.add_mul,Nat.mul_assoc,Nat.reduceMul]);rw[e] at this;exact this.symm
 have o3:(a*16777216+b*65536+c*256) ||| d=a*16777216+b*65536+c*256+d:=by
  have:=Nat.shiftLeft_add_eq_or_of_lt (b:=d) (i:=8) (by simp only[Nat.reducePow];omega) (a*65536+b*256+c);rw[Nat.shiftLeft_eq] at this;simp only[Nat.reducePow] at this;have e:(a*65536+b*256+c)*256=a*16777216+b*65536+c*256:=(by simp only[Nat.add_mul,Nat.mul_assoc,Nat.reduceMul]);rw[e] at this;exact this.symm
 rw[YS _ _ (by omega) (by omega),o1,YS _ _ (by omega) (by omega),o2,YS _ _ (by omega) (by omega),o3,Sha.GP];simp only[Nat.add_mul,Nat.mul_assoc,Nat.reduceMul]
structure Kp(oh m:Nat)(pl:List UInt8)(sp:Sp)(i:Nat)(E:Env):Prop where
 h3:E 3=.gR oh 0 1 8 8
 h4:E 4=.sl 1 64 (Sha.K.map wV) .no
 h5:E 5=.sl 1 (64*m) (pl.map ai) sp
 h6:E 6=.v (.int .i64 ((64*i:Nat):Int))
theorem Kp.aH{oh m i d:Nat}{pl:List UInt8}{sp:Sp}{E:Env}{v:AV}(h:Kp oh m pl sp i E)(hd:d≠3∧d≠4∧d≠5∧d≠6):Kp oh m pl sp i (aH E d v):=
 ⟨by rw[gS _ _ (Ne.symm hd.1)];exact h.h3,by rw[gS _ _ (Ne.symm hd.2.1)];exact h.h4,by rw[gS _ _ (Ne.symm hd.2.2.1)];exact h.h5,by rw[gS _ _ (Ne.symm hd.2.2.2)];exact h.h6⟩
structure Kq(ow:Nat)(E:Env):Prop where
 h7:E 7=.gR ow 0 1 64 64
theorem Kq.aH{ow d:Nat}{E:Env}{v:AV}(h:Kq ow E)(hd:d≠7):Kq ow (aH E d v):=⟨by rw[gS _ _ (Ne.symm hd)];exact h.h7⟩
structure Kr(cs:List AV)(sp:Sp)(E:Env):Prop where
 LY:E 13=.sl 1 8 cs sp
theorem Kr.aH{cs:List AV}{sp:Sp}{d:Nat}{E:Env}{v:AV}(h:Kr cs sp E)(hd:d≠13):Kr cs sp (aH E d v):=⟨by rw[gS _ _ (Ne.symm hd)];exact h.LY⟩
theorem xcz(l:List UInt8)(i:Nat)(h:i<l.length):List.take 1 (List.drop i (l.map ai))=[.v (.int .u8 ((l.getD i 0).toNat:Int))]:=by
 have :(l.map ai)[i]? =some (ai (l.getD i 0)):=by
  rw[List.getElem?_map,List.getElem?_eq_getElem h];simp only[Option.map_some,List.getD,List.getElem?_eq_getElem h,Option.getD_some]
 rw[drop_cons _ _ _ this];rfl
theorem Mn(l:List UInt8)(i:Nat)(h:i<l.length):List.map ai (List.take 1 (List.drop i l))=[.v (.int .u8 ((l.getD i 0).toNat:Int))]:=by
 rw[List.map_take,List.map_drop];exact xcz l i h
theorem Mo(l:List UInt8)(i j:Nat)(h:j<64)(hl:64*i+j<l.length):(Sha.nE l i).getD j 0=l.getD (64*i+j) 0:=by
 simp only[Sha.nE,List.getD_eq_getElem?_getD,List.getElem?_take,if_pos h,List.getElem?_drop]
theorem xcA(x:AV):List.replicate 8 x=[x,x,x,x,x,x,x,x]:=rfl
theorem Y5(l:List Nat)(i:Nat)(h:i<l.length):List.drop i (l.map wV)=wV (l.getD i 0)::List.drop (i+1) (l.map wV):=drop_cons _ _ _ (yV l i h)
theorem fV(l:List UInt8)(hl:l.length≤2^40)(s:AS):
  aj prog Γ 170 [.v (.string ⟨l.toArray⟩)] s (fun r s'=>r=.v (.string ⟨(Sha.sum l).toArray⟩)∧s'=s):=by
 refine aa func170 rfl ntmps170 results170 (by simp) ?_;refine jA ?_;refine B5 rfl (by decide) (fun r s'=>∃ob,s.aw ob=none∧r=.gR ob 0 (prog.cellsOf 214) 8 8∧s'=s.set ob (ef Sha.H0)) (fun G a w hr=>?_) ?_
 ·exact D6 (cs:=ef Sha.H0) (e:=214) rfl underlying227 T.Si (by rw[T.Cg];decide) (by rw[T.Cg];decide) (by rw[T.Cg];rfl) (by simp only[T.Cg];rfl) hr.eval hr.st
 rw[T.Cg];rintro r s1 ⟨oh,hoh,rfl,rfl⟩;refine jM ?_;refine jK (GS _) ?_;rintro s2 rfl;refine jQ fun K hK=>?_;refine ad (CR l (by omega) _) ?_;intro r s1 bu;have AF:=Sha.rX l;have hpm:=Sha.H5 l;obtain⟨m,hm⟩:∃m,(Sha.pad l).length=64*m:=⟨(Sha.pad l).length/64,by omega⟩;have hz:Sha.gA l.length<64:=(by rw[Sha.gA];omega);have Y3:64*m≤2^41:=(by omega);obtain⟨tk,e,Fw⟩:=cn bu (by rw[←List.length_pos_iff];omega);rw[hm] at Fw;subst Fw;have hle:s.le s1:=AS.le.trans (AS.aE (AS.le.refl s) hoh _) bu.1;have pd:s1.aw oh=some (ef Sha.H0):=bu.1.aw _ _ (AS.ae _ _ _);clear bu;refine jR hK ?_;clear hK K;have Oe:(Sha.hash (Sha.pad l) m).bytes=Sha.sum l:=(by rw[Sha.sum,hm,Nat.mul_div_cancel_left _ (by decide)]);obtain⟨pl,xcB⟩:∃pl,pl=Sha.pad l:=⟨_,rfl⟩;rw[←xcB] at hm Oe⊢;refine wK fun K hK=>?_;refine jA ?_;refine ah ?_;refine aD (fun E s2=>∃i:Nat,i≤m∧Kp oh m pl (.own tk e) i E∧s2.aw oh=some (ef (Sha.hash pl i))∧s.le s2)
  (fun E _=>match E 6 with |.v (.int _ x)=>64*m-x.toNat|_=>0) ?_ ?_
 ·exact⟨0,Nat.zero_le _,⟨rfl,rfl,rfl,rfl⟩,pd,hle⟩
 ·rintro E1 s2 ⟨i,hi,hk,ho,hle⟩ -
  have e6:=hk.h6;have YY:=hk.h6;refine wK fun K2 aX=>?_;by_cases aY:i<m
  ·have bJ:((64*i:Nat):Int)<((64*m:Nat):Int):=(by omega);refine jB (Ai @e6 (Ai @hk.h5 (decide_eq_true bJ))) ?_;refine jE ?_;refine ab ?_;refine aX _ _ ?_;clear aX K2;refine wK fun K3 br=>?_;refine ah ?_;have iF:(Sha.nE pl i).length=64:=(Bw pl i (by omega)).2;have Y6:∀j,j<64→(Sha.nE pl i).getD j 0=pl.getD (64*i+j) 0:=fun j hj=>Mo pl i j hj (by omega);have hpg:∀j,j<64*m→List.map ai (List.take 1 (List.drop j pl))=[.v (.int .u8 ((pl.getD j 0).toNat:Int))]:=fun j hj=>Mn pl j (by omega);obtain⟨c,hc⟩:∃c,c=Sha.nE pl i:=⟨_,rfl⟩;rw[←hc] at iF Y6;have Q0:Sha.hash pl (i+1)=Sha.mix (Sha.hash pl i) c:=(by rw[hc];rfl);have iH:=Sha.H6 pl i;generalize xhV:Sha.hash pl i=st at *
   refine jQ fun K hK=>?_;refine⟨by decide,by decide,fun ow how=>?_⟩;have hwh:ow≠oh:=(fun e'=>by rw[e',ho] at how;cases how);have Tc:s.aw ow=none:=by
    cases hs:s.aw ow with
    |none=>rfl
    |some cs=>rw[hle.aw _ _ hs] at how;cases how
   refine hK _ _ ?_;clear hK;rw[show List.replicate 64 (AV.v (.int .u32 0))=row c 0 from rfl];obtain⟨E2,hE2⟩:∃E2,E2=(aH (aH (aH (aH (aH (aH E1 24 (AV.v (Value.int IntKind.i64 ((64*i:Nat):Int)))) 25 (AV.sl 1 (64*m) (List.map ai pl) (Sp.own tk e))) 26 (AV.v (Value.int IntKind.i64 ((64*m:Nat):Int)))) 27 (AV.v (Value.bool true))) 30 (AV.gR ow 0 1 64 64)) 7 (AV.gR ow 0 1 64 64)):=⟨_,rfl⟩;have hk:Kp oh m pl (.own tk e) i E2:=by
    rw[hE2];repeat(first |exact hk|refine Kp.aH ?_ (by decide))
   have hq:Kq ow E2:=⟨by rw[hE2];simp only[aH,↓reduceIte]⟩;rw[←hE2];clear hE2 e6;refine wK fun K4 eb=>?_;refine jA ?_;refine ah ?_;refine aD (fun E s3=>∃t:Nat,t≤16∧Kp oh m pl (.own tk e) i E∧Kq ow E∧E 8=.v (.int .i64 t)∧s3.aw ow=some (row c t)∧s3.aw oh=some (ef st)∧s.le s3)
    (fun E _=>match E 8 with |.v (.int _ x)=>16-x.toNat|_=>0) ?_ ?_
   ·exact⟨0,by omega,(by repeat(first |exact hk|exact hq|refine Kp.aH ?_ (by decide)|refine Kq.aH ?_ (by decide))),(by repeat(first |exact hk|exact hq|refine Kp.aH ?_ (by decide)|refine Kq.aH ?_ (by decide))),rfl,AS.ae _ _ _,by rw[AS.ao _ hwh.symm];exact ho,AS.aE hle Tc _⟩
   ·rintro E3 s3 ⟨t,ht,hk,hq,g8,jw,jh,gQ⟩ -
    refine wK fun K5 jZ=>?_;by_cases nF:t<16
    ·have bJ:(t:Int)<16:=(by omega);refine jB (Ai @g8 (decide_eq_true bJ)) ?_;refine jE ?_;refine ab ?_;refine jZ _ _ ?_;clear jZ K5;refine wK fun K6 kC=>?_;refine ah ?_;have a0:ec .i64 ((64*i:Nat):Int) ((4*t:Nat):Int)=((64*i+4*t:Nat):Int):=fU _ _ (by omega);have a1:ec .i64 ((64*i+4*t:Nat):Int) 1=((64*i+4*t+1:Nat):Int):=fU _ 1 (by omega);have a2:ec .i64 ((64*i+4*t:Nat):Int) 2=((64*i+4*t+2:Nat):Int):=fU _ 2 (by omega);have a3:ec .i64 ((64*i+4*t:Nat):Int) 3=((64*i+4*t+3:Nat):Int):=fU _ 3 (by omega);have Y7:Sha.word c (Sha.mf c t) t=Sha.GP (pl.getD (64*i+4*t) 0).toNat (pl.getD (64*i+4*t+1) 0).toNat (pl.getD (64*i+4*t+2) 0).toNat (pl.getD (64*i+4*t+3) 0).toNat:=by
      rw[Sha.word,if_pos nF,Y6 _ (by omega),Y6 _ (by omega),Y6 _ (by omega),Y6 _ (by omega)];rfl
     have cr:=xd c t (by omega);rw[Y7] at cr;simp only[wV] at cr;rw[←Pz] at cr;have p0:=hpg (64*i+4*t) (by omega);have p1:=hpg (64*i+4*t+1) (by omega);have p2:=hpg (64*i+4*t+2) (by omega);have p3:=hpg (64*i+4*t+3) (by omega);have b0:((64*i+4*t:Nat):Int)<((64*m:Nat):Int):=(by omega);have b1:((64*i+4*t+1:Nat):Int)<((64*m:Nat):Int):=(by omega);have b2:((64*i+4*t+2:Nat):Int)<((64*m:Nat):Int):=(by omega);have b3:((64*i+4*t+3:Nat):Int)<((64*m:Nat):Int):=(by omega);have q0:(0:Int)≤((64*i+4*t:Nat):Int):=(by omega);have q1:(0:Int)≤((64*i+4*t+1:Nat):Int):=(by omega);have q2:(0:Int)≤((64*i+4*t+2:Nat):Int):=(by omega);have q3:(0:Int)≤((64*i+4*t+3:Nat):Int):=(by omega);have iJ:(0:Int)≤(t:Int):=(by omega);have Mp:(t:Int)<((64:Nat):Int):=(by omega);have hlen:=cL c t (by omega);generalize pl.getD (64*i+4*t) 0=x0 at *
     generalize pl.getD (64*i+4*t+1) 0=x1 at *
     generalize pl.getD (64*i+4*t+2) 0=x2 at *
     generalize pl.getD (64*i+4*t+3) 0=x3 at *
     obtain⟨R,hR⟩:∃R,R=row c t:=⟨_,rfl⟩;rw[←hR] at cr hlen jw;refine jB (Ai @hk.h6 (Ai @g8 (Ai (EO t (by omega)) @a0))) ?_;refine fq T.mixed [32] (by kernel_rfl) ?_;intro K hK;refine jN (Ai @hk.h5 (Ai @hq.h7 (Ai @g8 (Ai @a1 (Ai @a2 (Ai @a3 (Ai @q0 (Ai @q1 (Ai @q2 (Ai @q3 (Ai @b0 (Ai @b1 (Ai @b2 (Ai @b3 (Ai @p0 (Ai @p1 (Ai @p2 (Ai @p3 (Ai @iJ (Ai @Mp (Ai @jw (Ai @cr @hlen)))))))))))))))))))))) ?_;refine⟨by omega,hK _ _ ?_⟩;clear hK;simp only[az,ar,if_true,if_false];refine kC _ _ ?_;clear kC K6;refine jD (Ai @g8 (cN t (by omega))) ?_;refine⟨⟨t+1,by omega,(by repeat(first |exact hk|exact hq|refine Kp.aH ?_ (by decide)|refine Kq.aH ?_ (by decide))),(by repeat(first |exact hk|exact hq|refine Kp.aH ?_ (by decide)|refine Kq.aH ?_ (by decide))),rfl,AS.ae _ _ _,by rw[AS.ao _ hwh.symm];exact jh,AS.aE gQ Tc _⟩,?_⟩;simp only[g8,aH,↓reduceIte];omega
    ·have bJ:¬(t:Int)<16:=(by omega);obtain rfl:t=16:=(by omega);refine jB (Ai @g8 (decide_eq_false bJ)) ?_;refine jF ?_;refine aC ?_;simp only[az,ar,if_true];clear jZ K5;refine eb _ _ ?_;clear eb K4;have hk:Kp oh m pl (.own tk e) i (aH (aH E3 31 (AV.v (.int .i64 ((16:Nat):Int)))) 32 (AV.v (.bool false))):=(by repeat(first |exact hk|exact hq|refine Kp.aH ?_ (by decide)|refine Kq.aH ?_ (by decide)));have hq:Kq ow (aH (aH E3 31 (AV.v (.int .i64 ((16:Nat):Int)))) 32 (AV.v (.bool false))):=(by repeat(first |exact hk|exact hq|refine Kp.aH ?_ (by decide)|refine Kq.aH ?_ (by decide)));generalize (aH (aH E3 31 (AV.v (.int .i64 ((16:Nat):Int)))) 32 (AV.v (.bool false)))=E4 at *
     clear g8;refine wK fun K4 eb=>?_;refine jA ?_;refine ah ?_;refine aD (fun E s3=>∃t:Nat,16≤t∧t≤64∧Kp oh m pl (.own tk e) i E∧Kq ow E∧E 10=.v (.int .i64 t)∧s3.aw ow=some (row c t)∧s3.aw oh=some (ef st)∧s.le s3)
      (fun E _=>match E 10 with |.v (.int _ x)=>64-x.toNat|_=>0) ?_ ?_
     ·exact⟨16,by omega,by omega,(by repeat(first |exact hk|exact hq|refine Kp.aH ?_ (by decide)|refine Kq.aH ?_ (by decide))),(by repeat(first |exact hk|exact hq|refine Kp.aH ?_ (by decide)|refine Kq.aH ?_ (by decide))),rfl,jw,jh,gQ⟩
     ·rintro E5 s4 ⟨t,ht,OH,hk,hq,g10,jw,jh,eM⟩ -
      refine wK fun K5 jZ=>?_;by_cases nF:t<64
      ·have bJ:(t:Int)<64:=(by omega);refine jB (Ai @g10 (decide_eq_true bJ)) ?_;refine jE ?_;refine ab ?_;refine jZ _ _ ?_;clear jZ K5;refine wK fun K6 kC=>?_;refine ah ?_;have iJ:(0:Int)≤(t:Int):=(by omega);have Mp:(t:Int)<((64:Nat):Int):=(by omega);have n2:(0:Int)≤((t-2:Nat):Int):=(by omega);have n7:(0:Int)≤((t-7:Nat):Int):=(by omega);have n15:(0:Int)≤((t-15:Nat):Int):=(by omega);have n16:(0:Int)≤((t-16:Nat):Int):=(by omega);have m2:((t-2:Nat):Int)<((64:Nat):Int):=(by omega);have m7:((t-7:Nat):Int)<((64:Nat):Int):=(by omega);have Rg:((t-15:Nat):Int)<((64:Nat):Int):=(by omega);have Pp:((t-16:Nat):Int)<((64:Nat):Int):=(by omega);have w2:di .i64 (t:Int) 2=((t-2:Nat):Int):=gF t 2 (by omega) (by omega);have w7:di .i64 (t:Int) 7=((t-7:Nat):Int):=gF t 7 (by omega) (by omega);have w15:di .i64 (t:Int) 15=((t-15:Nat):Int):=gF t 15 (by omega) (by omega);have Y8:di .i64 (t:Int) 16=((t-16:Nat):Int):=gF t 16 (by omega) (by omega);have d2:=kf c t (t-2) (by omega);have d7:=kf c t (t-7) (by omega);have d15:=kf c t (t-15) (by omega);have d16:=kf c t (t-16) (by omega);have hw:Sha.word c (Sha.mf c t) t=Sha.ei (Sha.ei (Sha.ei (Sha.CM ((Sha.mf c t).getD (t-2) 0) 17 19 10) ((Sha.mf c t).getD (t-7) 0)) (Sha.CM ((Sha.mf c t).getD (t-15) 0) 7 18 3)) ((Sha.mf c t).getD (t-16) 0):=(by rw[Sha.word,if_neg (by omega)]);have cr:=xd c t nF;rw[hw] at cr;have hlen:=cL c t OH;have l2:=Sha.mI c t (t-2);have Pq:=Sha.mI c t (t-15);generalize (Sha.mf c t).getD (t-2) 0=y at *
       generalize (Sha.mf c t).getD (t-7) 0=x7 at *
       generalize (Sha.mf c t).getD (t-15) 0=x at *
       generalize (Sha.mf c t).getD (t-16) 0=x16 at *
       obtain⟨R,hR⟩:∃R,R=row c t:=⟨_,rfl⟩;rw[←hR] at d2 d7 d15 d16 cr hlen jw;have y10:eJ .u32 (y:Int) 10=((y/2^10:Nat):Int):=uZ y 10 (by decide);have x3:eJ .u32 (x:Int) 3=((x/2^3:Nat):Int):=uZ x 3 (by decide);have v1:=pb _ _ (Sha.cj 17 l2) (Sha.cj 19 l2);have v2:=pb _ _ (Nat.xor_lt_two_pow (n:=32) (Sha.cj 17 l2) (Sha.cj 19 l2)) (Nat.lt_of_le_of_lt (Nat.div_le_self y (2^10)) l2);have v3:=pb _ _ (Sha.cj 7 Pq) (Sha.cj 18 Pq);have v4:=pb _ _ (Nat.xor_lt_two_pow (n:=32) (Sha.cj 7 Pq) (Sha.cj 18 Pq)) (Nat.lt_of_le_of_lt (Nat.div_le_self x (2^3)) Pq);have u1:(Sha.ml y 17 ^^^ Sha.ml y 19) ^^^ (y/2^10)=Sha.CM y 17 19 10:=rfl;have u2:(Sha.ml x 7 ^^^ Sha.ml x 18) ^^^ (x/2^3)=Sha.CM x 7 18 3:=rfl;rw[u1] at v2;rw[u2] at v4;simp only[Nat.reducePow] at y10 x3 v2 v4;refine dC T.mixed [(ow,R)] [] [4,9] [] (by kernel_rfl) (by simp only[aG,aJ,and_true];simp[AS.set,aH,jw]) ?_;intro K hK;simp only[↓bo,↓a7,da,cX,aL,aR,aG,aJ,List.any_cons,List.any_nil,List.contains_cons,List.contains_nil,Nat.reduceBEq,Bool.or_false,Bool.or_true,Bool.or_self,Bool.false_or,↓DN,Qa,Qb,Qc,Qd,Qe,Qf,Qg,Qh,reduceCtorEq,↓reduceIte,Na,Nb,Nc,Nk,Nf,Ng,Nh,Za,Zb,Zc,TT,hq.h7,g10,w2,w15,n2,n15,m2,Rg,d2,d15,jw];refine hK _ _ ?_;clear hK K;refine cD T.mixed [(ow,R)] [3,5,17,19] [14,29] [32] (by kernel_rfl) (by simp only[aG,aJ,and_true];simp[AS.set,aH,jw]) ?_;intro K hK;simp only[↓bo,↓a7,da,cX,aL,aR,aG,aJ,List.any_cons,List.any_nil,List.contains_cons,List.contains_nil,Nat.reduceBEq,Bool.or_false,Bool.or_true,Bool.or_self,Bool.false_or,↓DN,Qa,Qb,Qc,Qd,Qe,Qf,Qg,Qh,reduceCtorEq,↓reduceIte,Na,Nb,Nc,Nk,Nf,Ng,Nh,Za,Zb,Zc,TT,hq.h7,g10,w7,Y8,n7,n16,m7,Pp,d7,d16,jw];refine ad (dF y 17 l2 (by omega) (by omega) _) ?_;rintro r sa ⟨rfl,rfl⟩;simp only[↓ca,↓bI,bN,↓bo,↓a7,da,cX,aL,aR,aG,aJ,List.any_cons,List.any_nil,DX,Nat.reduceBEq,↓DN,Qa,Qb,Qc,Qd,Qe,Qf,Qg,Qh,reduceCtorEq,↓reduceIte,Na,Nb,Nc,Nk,Nf,Ng,Nh,Za,Zb,Zc,TT,hq.h7,g10,w7,Y8,n7,n16,m7,Pp,d7,d16,jw];refine ad (dF y 19 l2 (by omega) (by omega) _) ?_;rintro r sb ⟨rfl,rfl⟩;simp only[↓ca,↓bI,bN,↓bo,↓a7,da,cX,aL,aR,aG,aJ,List.any_cons,List.any_nil,DX,Nat.reduceBEq,↓DN,Qa,Qb,Qc,Qd,Qe,Qf,Qg,Qh,reduceCtorEq,↓reduceIte,Na,Nb,Nc,Nk,Nf,Ng,Nh,Za,Zb,Zc,TT,hq.h7,g10,w7,Y8,n7,n16,m7,Pp,d7,d16,jw,y10,v1,v2,tQ];refine ad (dF x 7 Pq (by omega) (by omega) _) ?_;rintro r sc ⟨rfl,rfl⟩;simp only[↓ca,↓bI,bN,↓bo,↓a7,da,cX,aL,aR,aG,aJ,List.any_cons,List.any_nil,DX,Nat.reduceBEq,↓DN,Qa,Qb,Qc,Qd,Qe,Qf,Qg,Qh,reduceCtorEq,↓reduceIte,Na,Nb,Nc,Nk,Nf,Ng,Nh,Za,Zb,Zc,TT,hq.h7,g10,w7,Y8,n7,n16,m7,Pp,d7,d16,jw,y10,v1,v2,tQ];refine ad (dF x 18 Pq (by omega) (by omega) _) ?_;rintro r sd ⟨rfl,rfl⟩;simp only[↓ca,↓bI,bN,↓bo,↓a7,da,cX,aL,aR,aG,aJ,List.any_cons,List.any_nil,DX,Nat.reduceBEq,↓DN,Qa,Qb,Qc,Qd,Qe,Qf,Qg,Qh,reduceCtorEq,↓reduceIte,Na,Nb,Nc,Nk,Nf,Ng,Nh,Za,Zb,Zc,TT,hq.h7,g10,w7,Y8,n7,n16,m7,Pp,d7,d16,jw,x3,v3,v4,tQ,iJ,Mp,cr,hlen];refine⟨by omega,hK _ _ ?_⟩;clear hK;simp only[az,ar,if_true,if_false];refine kC _ _ ?_;clear kC K6;refine jD (Ai @g10 (cN t (by omega))) ?_;refine⟨⟨t+1,by omega,by omega,(by repeat(first |exact hk|exact hq|refine Kp.aH ?_ (by decide)|refine Kq.aH ?_ (by decide))),(by repeat(first |exact hk|exact hq|refine Kp.aH ?_ (by decide)|refine Kq.aH ?_ (by decide))),rfl,AS.ae _ _ _,by rw[AS.ao _ hwh.symm];exact jh,AS.aE eM Tc _⟩,?_⟩;simp only[g10,aH,↓reduceIte];omega
      ·have bJ:¬(t:Int)<64:=(by omega);obtain rfl:t=64:=(by omega);refine jB (Ai @g10 (decide_eq_false bJ)) ?_;refine jF ?_;refine aC ?_;simp only[az,ar,if_true];clear jZ K5;refine eb _ _ ?_;clear eb K4;have hk:Kp oh m pl (.own tk e) i (aH (aH E5 71 (AV.v (.int .i64 ((64:Nat):Int)))) 72 (AV.v (.bool false))):=(by repeat(first |exact hk|exact hq|refine Kp.aH ?_ (by decide)|refine Kq.aH ?_ (by decide)));have hq:Kq ow (aH (aH E5 71 (AV.v (.int .i64 ((64:Nat):Int)))) 72 (AV.v (.bool false))):=(by repeat(first |exact hk|exact hq|refine Kp.aH ?_ (by decide)|refine Kq.aH ?_ (by decide)));generalize (aH (aH E5 71 (AV.v (.int .i64 ((64:Nat):Int)))) 72 (AV.v (.bool false)))=E6 at *
       clear g10;rw[EN] at jw;obtain⟨W,hW⟩:∃W,W=Sha.mf c 64:=⟨_,rfl⟩;have HM:W.length=64:=(by rw[hW,Sha.cz]);have Ps:Sha.mix st c=st.add (Sha.rounds W st 64):=(by rw[hW];rfl);rw[←hW] at jw;have xhX:(ef st).length=8:=rfl;have xhY:List.take 8 (ef st)=ef st:=rfl;have xfT:=H8 st;refine jS (Ai @hk.h3 @jh) fun K hK=>?_;intro tt htt;refine hK _ _ ?_;clear hK;have Y9:s.own tt=none:=by
        cases hs:s.own tt with
        |none=>rfl
        |some g=>rw[eM.own _ _ hs] at htt;cases htt
       have fR:s.le (s4.bw tt 0):=AS.bj eM Y9 _;have jw5:(s4.bw tt 0).aw ow=some (W.map wV):=jw;have jh5:(s4.bw tt 0).aw oh=some (ef st):=jh;generalize s4.bw tt 0=s5 at *
       refine wK fun K4 eb=>?_;refine jA ?_;refine ah ?_;refine aD (fun E s3=>∃t:Nat,t≤64∧Kp oh m pl (.own tk e) i E∧Kq ow E∧(∃sp',Kr (ef (Sha.rounds W st t)) sp' E)∧E 14=.v (.int .i64 t)∧s3.aw ow=some (W.map wV)∧s3.aw oh=some (ef st)∧s.le s3)
        (fun E _=>match E 14 with |.v (.int _ x)=>64-x.toNat|_=>0) ?_ ?_
       ·exact⟨0,by omega,(by repeat(first |exact hk|exact hq|refine Kp.aH ?_ (by decide)|refine Kq.aH ?_ (by decide))),(by repeat(first |exact hk|exact hq|refine Kp.aH ?_ (by decide)|refine Kq.aH ?_ (by decide))),⟨.own tt 0,by refine Kr.aH ?_ (by decide);exact⟨rfl⟩⟩,rfl,jw5,jh5,fR⟩
       ·rintro E7 s6 ⟨t,ht,hk,hq,⟨sp',hv⟩,g14,jw,jh,ew⟩ -
        refine wK fun K5 jZ=>?_;have kN:=Sha.uY (w:=W) iH t;have xcE:Sha.rounds W st (t+1)=(Sha.rounds W st t).step (Sha.K.getD t 0) (W.getD t 0):=rfl;generalize hu:Sha.rounds W st t=u at *
        by_cases nF:t<64
        ·have bJ:(t:Int)<64:=(by omega);refine jB (Ai @g14 (decide_eq_true bJ)) ?_;refine jE ?_;refine ab ?_;refine jZ _ _ ?_;clear jZ K5;refine wK fun K6 kC=>?_;refine ah ?_;have iJ:(0:Int)≤(t:Int):=(by omega);have Mp:(t:Int)<((64:Nat):Int):=(by omega);have Ug:=Y5 W t (by omega);have FF:=Y5 Sha.K t (by rw[show Sha.K.length=64 from rfl];omega);generalize W.getD t 0=wi at *
         generalize Sha.K.getD t 0=ki at *
         obtain⟨KL,hKL⟩:∃KL,KL=Sha.K.map wV:=⟨_,rfl⟩;obtain⟨WL,hWL⟩:∃WL,WL=W.map wV:=⟨_,rfl⟩;have g4:=hk.h4;rw[←hKL] at FF g4;rw[←hWL] at Ug jw;have xcF:List.take 1 (List.drop t KL)=[wV ki]:=(by rw[FF];rfl);have g13:=hv.LY;have GX:∀{a b:Nat},a<4294967296→b<4294967296→a &&& b<4294967296:=fun{a b}ha hb=>Nat.lt_of_le_of_lt Nat.and_le_left ha;have YW:∀{a b:Nat},a<4294967296→b<4294967296→a ^^^ b<4294967296:=fun{a b}ha hb=>Nat.xor_lt_two_pow (n:=32) ha hb;have hn:4294967295-u.e<4294967296:=(by omega);have z1:=pb _ _ (Sha.cj 6 kN.e) (Sha.cj 11 kN.e);have z2:=pb _ _ (YW (Sha.cj 6 kN.e) (Sha.cj 11 kN.e)) (Sha.cj 25 kN.e);have z3:(Sha.ml u.e 6 ^^^ Sha.ml u.e 11) ^^^ Sha.ml u.e 25=Sha.L9 u.e 6 11 25:=rfl;rw[z3] at z2;have z4:=pb _ _ (Sha.cj 2 kN.a) (Sha.cj 13 kN.a);have z5:=pb _ _ (YW (Sha.cj 2 kN.a) (Sha.cj 13 kN.a)) (Sha.cj 22 kN.a);have z6:(Sha.ml u.a 2 ^^^ Sha.ml u.a 13) ^^^ Sha.ml u.a 22=Sha.L9 u.a 2 13 22:=rfl;rw[z6] at z5;refine dC T.mixed [(ow,WL)] [6,10,15] [43] [] (by kernel_rfl) (by simp only[aG,aJ,and_true];simp[AS.set,aH,jw]) ?_;intro K hK;simp only[↓bo,↓a7,da,cX,aL,aR,aG,aJ,List.any_cons,List.any_nil,List.contains_cons,List.contains_nil,Nat.reduceBEq,Bool.or_false,Bool.or_true,Bool.or_self,Bool.false_or,↓DN,Qa,Qb,Qc,Qd,Qe,Qf,Qg,Qh,reduceCtorEq,↓reduceIte,Na,Nb,Nc,Nk,Nf,Ng,Nh,Za,Zb,Zc,TT,g13,c8,hq.h7,g14,g4,jw];refine ad (dF u.e 6 kN.e (by omega) (by omega) _) ?_;rintro r sa ⟨rfl,rfl⟩;simp only[↓ca,↓bI,bN,↓bo,↓a7,da,cX,aL,aR,aG,aJ,List.any_cons,List.any_nil,DX,Nat.reduceBEq,↓DN,Qa,Qb,Qc,Qd,Qe,Qf,Qg,Qh,reduceCtorEq,↓reduceIte,Na,Nb,Nc,Nk,Nf,Ng,Nh,Za,Zb,Zc,TT,g13,c8,hq.h7,g14,g4,jw];refine ad (dF u.e 11 kN.e (by omega) (by omega) _) ?_;rintro r sb ⟨rfl,rfl⟩;simp only[↓ca,↓bI,bN,↓bo,↓a7,da,cX,aL,aR,aG,aJ,List.any_cons,List.any_nil,DX,Nat.reduceBEq,↓DN,Qa,Qb,Qc,Qd,Qe,Qf,Qg,Qh,reduceCtorEq,↓reduceIte,Na,Nb,Nc,Nk,Nf,Ng,Nh,Za,Zb,Zc,TT,g13,c8,hq.h7,g14,g4,jw,z1];refine ad (dF u.e 25 kN.e (by omega) (by omega) _) ?_;rintro r sc ⟨rfl,rfl⟩;simp only[↓ca,↓bI,bN,↓bo,↓a7,da,cX,aL,aR,aG,aJ,List.any_cons,List.any_nil,DX,Nat.reduceBEq,↓DN,Qa,Qb,Qc,Qd,Qe,Qf,Qg,Qh,reduceCtorEq,↓reduceIte,Na,Nb,Nc,Nk,Nf,Ng,Nh,Za,Zb,Zc,TT,g13,c8,hq.h7,g14,g4,jw,z1,z2,xcF,Ug,iJ,Mp,tQ,Am u.e u.f kN.e kN.f,YT u.e kN.e,Am (4294967295-u.e) u.g hn kN.g,pb (u.e &&& u.f) ((4294967295-u.e) &&& u.g) (GX kN.e kN.f) (GX hn kN.g)];refine hK _ _ ?_;clear hK K;refine ba T.mixed [3,7,12] (by kernel_rfl) ?_;intro K hK;refine jN (Ai @g13 @c8) ?_;refine ad (dF u.a 2 kN.a (by omega) (by omega) _) ?_;rintro r sa ⟨rfl,rfl⟩;refine jN (Ai @g13 @c8) ?_;refine ad (dF u.a 13 kN.a (by omega) (by omega) _) ?_;rintro r sb ⟨rfl,rfl⟩;refine jN (Ai @g13 (Ai @c8 @z4)) ?_;refine ad (dF u.a 22 kN.a (by omega) (by omega) _) ?_;rintro r sc ⟨rfl,rfl⟩;refine jV (Ai @g13 (Ai @c8 (Ai @z4 (Ai @z5 (Ai @tQ (Ai (Am u.a u.b kN.a kN.b) (Ai (Am u.a u.c kN.a kN.c) (Ai (Am u.b u.c kN.b kN.c) (Ai (pb (u.a &&& u.b) (u.a &&& u.c) (GX kN.a kN.b) (GX kN.a kN.c)) (pb ((u.a &&& u.b) ^^^ (u.a &&& u.c)) (u.b &&& u.c) (YW (GX kN.a kN.b) (GX kN.a kN.c)) (GX kN.b kN.c))))))))))) hK ?_;clear hK K;refine fq T.mixed [] (by kernel_rfl) ?_;intro K hK;refine jV (Ai @g13 (Ai @c8 (Ai @tQ @xcA))) hK ?_;clear hK K;simp only[az,ar,if_true,if_false];refine kC _ _ ?_;clear kC K6;refine jD (Ai @g14 (cN t (by omega))) ?_;refine⟨⟨t+1,by omega,(by repeat(first |exact hk|exact hq|refine Kp.aH ?_ (by decide)|refine Kq.aH ?_ (by decide))),(by repeat(first |exact hk|exact hq|refine Kp.aH ?_ (by decide)|refine Kq.aH ?_ (by decide))),⟨.new,?_⟩,rfl,by rw[jw,hWL],jh,ew⟩,?_⟩
         ·repeat(first |refine Kr.aH ?_ (by decide))
          refine⟨?_⟩;simp only[aH,↓reduceIte];rw[xcE];rfl
         ·simp only[g14,aH,↓reduceIte];omega
        ·have bJ:¬(t:Int)<64:=(by omega);obtain rfl:t=64:=(by omega);refine jB (Ai @g14 (decide_eq_false bJ)) ?_;refine jF ?_;refine aC ?_;simp only[az,ar,if_true];clear jZ K5;refine eb _ _ ?_;clear eb K4;have hk:Kp oh m pl (.own tk e) i (aH (aH E7 120 (AV.v (.int .i64 ((64:Nat):Int)))) 121 (AV.v (.bool false))):=(by repeat(first |exact hk|exact hq|refine Kp.aH ?_ (by decide)|refine Kq.aH ?_ (by decide)));have hv:Kr (ef u) sp' (aH (aH E7 120 (AV.v (.int .i64 ((64:Nat):Int)))) 121 (AV.v (.bool false))):=(by repeat(first |exact hk|exact hq|exact hv|refine Kp.aH ?_ (by decide)|refine Kq.aH ?_ (by decide)|refine Kr.aH ?_ (by decide)));generalize (aH (aH E7 120 (AV.v (.int .i64 ((64:Nat):Int)))) 121 (AV.v (.bool false)))=E8 at *
         clear g14;rw[hu] at Ps;rw[←Bs st u] at jh;refine jA ?_;refine ah ?_;refine aD (fun E s3=>∃t:Nat,t≤8∧Kp oh m pl (.own tk e) i E∧Kr (ef u) sp' E∧E 17=.v (.int .i64 t)∧s3.aw oh=some (yW st u t)∧s.le s3)
          (fun E _=>match E 17 with |.v (.int _ x)=>8-x.toNat|_=>0) ?_ ?_
         ·exact⟨0,by omega,(by repeat(first |exact hk|exact hq|refine Kp.aH ?_ (by decide)|refine Kq.aH ?_ (by decide))),(by repeat(first |exact hk|exact hq|exact hv|refine Kp.aH ?_ (by decide)|refine Kq.aH ?_ (by decide)|refine Kr.aH ?_ (by decide))),rfl,jh,ew⟩
         ·rintro E9 s7 ⟨t,ht,hk,hv,g17,jh,oq⟩ -
          refine wK fun K5 jZ=>?_;by_cases nF:t<8
          ·have bJ:(t:Int)<8:=(by omega);refine jB (Ai @g17 (decide_eq_true bJ)) ?_;refine jE ?_;refine ab ?_;refine jZ _ _ ?_;clear jZ K5;refine wK fun K6 kC=>?_;refine ah ?_;have iJ:(0:Int)≤(t:Int):=(by omega);have d2:=Bu st u t nF;have d5:=yX u t nF;have cr:=ER st u t nF;have hlen:=EP st u t ht;generalize st.list.getD t 0=x at *
           generalize u.list.getD t 0=y at *
           have g13:=hv.LY;obtain⟨X,hX⟩:∃X,X=yW st u t:=⟨_,rfl⟩;rw[←hX] at d2 cr hlen jh;obtain⟨Y,hY⟩:∃Y,Y=ef u:=⟨_,rfl⟩;rw[←hY] at d5 g13;have d51:List.take 1 (List.drop t Y)=[wV y]:=(by rw[d5];rfl);refine cD T.mixed [(oh,X)] [] [5] [12] (by kernel_rfl) (by simp only[aG,aJ,and_true];simp[AS.set,aH,jh]) ?_;intro K hK;simp only[↓bo,↓a7,da,cX,aL,aR,aG,aJ,List.any_cons,List.any_nil,List.contains_cons,List.contains_nil,Nat.reduceBEq,Bool.or_false,Bool.or_true,Bool.or_self,Bool.false_or,↓DN,Qa,Qb,Qc,Qd,Qe,Qf,Qg,Qh,reduceCtorEq,↓reduceIte,Na,Nb,Nc,Nk,Nf,Ng,Nh,Za,Zb,Zc,TT,hk.h3,g17,g13,c8,iJ,bJ,d2,d51,jh,tQ,cr,hlen];refine⟨by omega,hK _ _ ?_⟩;clear hK;simp only[az,ar,if_true,if_false];refine kC _ _ ?_;clear kC K6;refine jD (Ai @g17 (cN t (by omega))) ?_;refine⟨⟨t+1,by omega,(by repeat(first |exact hk|exact hq|refine Kp.aH ?_ (by decide)|refine Kq.aH ?_ (by decide))),(by repeat(first |exact hk|exact hq|exact hv|refine Kp.aH ?_ (by decide)|refine Kq.aH ?_ (by decide)|refine Kr.aH ?_ (by decide))),rfl,AS.ae _ _ _,AS.aE oq hoh _⟩,?_⟩;simp only[g17,aH,↓reduceIte];omega
          ·have bJ:¬(t:Int)<8:=(by omega);obtain rfl:t=8:=(by omega);refine jB (Ai @g17 (decide_eq_false bJ)) ?_;refine jF ?_;refine aC ?_;simp only[az,ar,if_true,if_false];refine br _ _ ?_;clear br jZ K3 K5;have h6:=hk.h6;have Pv:ec .i64 ((64*i:Nat):Int) 64=((64*(i+1):Nat):Int):=fU (64*i) 64 (by omega);refine jD (Ai @h6 @Pv) ?_;rw[Bt,←Ps,←Q0] at jh;refine⟨⟨i+1,aY,⟨by simp only[aH,hk.h3,Nc,↓reduceIte],by simp only[aH,hk.h4,Nc,↓reduceIte],by simp only[aH,hk.h5,Nc,↓reduceIte],rfl⟩,jh,oq⟩,?_⟩;simp only[aH,↓reduceIte,Int.toNat_natCast,YY];omega
  ·have bJ:¬((64*i:Nat):Int)<((64*m:Nat):Int):=(by omega);obtain rfl:i=m:=(by omega);refine jB (Ai @e6 (Ai @hk.h5 (decide_eq_false bJ))) ?_;refine jF ?_;refine aC ?_;simp only[az,ar,if_true];clear aX K2;refine hK _ _ ?_;clear hK K;have h3:=hk.h3;generalize Sha.hash pl i=u at *
   refine jA ?_;refine wK fun K hK=>?_;refine jA ?_;refine ah ?_;refine aD (fun E s3=>∃t:Nat,t≤8∧E 3=.gR oh 0 1 8 8∧E 19=.v (.int .i64 t)∧s3.aw oh=some (ef u)∧dS s2 (Jy u t) (E 18) s3)
    (fun E _=>match E 19 with |.v (.int _ x)=>8-x.toNat|_=>0) ?_ ?_
   ·exact⟨0,by omega,h3,rfl,ho,AS.le.refl s2,.inl ⟨rfl,rfl⟩⟩
   ·rintro E3 s3 ⟨t,ht,g3,g19,jh,yZ⟩ -
    refine wK fun K5 jZ=>?_;by_cases nF:t<8
    ·have bJ:(t:Int)<8:=(by omega);have iJ:(0:Int)≤(t:Int):=(by omega);refine jB (Ai @g19 (decide_eq_true bJ)) ?_;refine jE ?_;refine ab ?_;refine jZ _ _ ?_;clear jZ K5;refine wK fun K6 kC=>?_;refine ah ?_;have d5:=yX u t nF;have tS:=Bx u t nF;have NH:=EX u t ht;generalize u.list.getD t 0=x at *
     have KN:eJ .u32 (x:Int) 24=((x/2^24:Nat):Int):=uZ x 24 (by decide);have JW:eJ .u32 (x:Int) 16=((x/2^16:Nat):Int):=uZ x 16 (by decide);have s8:eJ .u32 (x:Int) 8=((x/2^8:Nat):Int):=uZ x 8 (by decide);generalize tT:E3 18=r6 at yZ;obtain⟨X,hX⟩:∃X,X=ef u:=⟨_,rfl⟩;rw[←hX] at d5 jh;refine cD T.mixed [(oh,X)] [25] [4,10,16,22] [] (by kernel_rfl) (by simp only[aG,aJ,and_true];simp[AS.set,aH,jh]) ?_;intro K hK;simp only[↓bo,↓a7,da,cX,aL,aR,aG,aJ,List.any_cons,List.any_nil,List.contains_cons,List.contains_nil,Nat.reduceBEq,Bool.or_false,Bool.or_true,Bool.or_self,Bool.false_or,↓DN,Qa,Qb,Qc,Qd,Qe,Qf,Qg,Qh,reduceCtorEq,↓reduceIte,Na,Nb,Nc,Nk,Nf,Ng,Nh,Za,Zb,Zc,TT,g3,g19,c8,iJ,bJ,d5,jh,KN,JW,s8,YZ,tT];refine dk (ds:=Sha.be x) yZ rfl (by simp only[Sha.be,List.map_cons,List.map_nil,xe]) T.c5 T.b5 (by rw[NH];simp only[Sha.be,List.length_cons,List.length_nil];omega) ?_;intro r2 s6 h6;rw[tS] at h6;refine⟨by rw[hX];exact h6.1.aw _ _ ho,hK _ _ ?_⟩;clear hK;simp only[az,ar,if_true,if_false];refine kC _ _ ?_;clear kC K6;refine jD (Ai @g19 (cN t (by omega))) ?_;refine⟨⟨t+1,by omega,g3,rfl,h6.1.aw _ _ ho,by simpa only[aH,Nc,↓reduceIte] using h6⟩,?_⟩;simp only[g19,aH,↓reduceIte];omega
    ·have bJ:¬(t:Int)<8:=(by omega);obtain rfl:t=8:=(by omega);refine jB (Ai @g19 (decide_eq_false bJ)) ?_;refine jF ?_;refine aC ?_;simp only[az,ar,if_true];clear jZ K5;refine hK _ _ ?_;clear hK K;rw[Bz,Oe] at yZ;obtain⟨tz,ez,UB⟩:=cn yZ (by rw[←List.length_pos_iff,Sha.de];decide);refine jB @UB ?_;refine jI ?_;exact⟨_,s,AV.aB.refl _,AS.le.trans hle yZ.1,rfl,rfl⟩
theorem Oq:ag prog 235=true:=by kernel_rfl
theorem Ot:ag prog 237=true:=by kernel_rfl
theorem Ou:ag prog 163=true:=by kernel_rfl
theorem eE(k:Nat)(n:Int)(st:List UInt8×Bool):(bm k n st).1.length≤st.1.length+k:=by
 unfold bm ed;split
 ·split
  ·omega
  ·simp
 ·simp only;omega
theorem Ap(number:Int)(hn: -9223372036854775808≤number∧number≤9223372036854775807)(N:af)(hl:N.ig.length≤2^61)(s0 s:AS)(p:Nat)(st:List UInt8×Bool)(iH:st.1.length≤100)(h:gb s0 s p st):
  aj prog Γ 235 [.ptr p 0,.dr [.v (.int .i64 number)],.dr N.cells] s (fun r s'=>r=.eo []∧gb s0 s' p (dz N (bm 4 number st))):=by
 refine aa func235 rfl ntmps235 results235 (by simp) ?_;have hw:=oP (Γ:=Γ) N hl;unfold af.cells at *
 refine jQ fun K hK=>?_;refine ad (tI s0 s p st number hn (by omega) h) ?_;rintro r s1 ⟨rfl,h1⟩;refine jR hK ?_;clear hK K;have hl4:=eE 4 number st;refine jU @aF.eq_1 fun K hK=>?_;refine ad (hw s0 s1 p _ (by omega) h1) ?_;rintro r s2 ⟨rfl,h2⟩;refine jR hK ?_;clear hK K;simp only[cf,bt,bD,c7,List.toList_toArray,↓bf];try simp only[UP,DF,Nc,↓reduceIte,DT]
 exact jW ⟨rfl,h2⟩
theorem wI(N:af)(hl:N.ig.length≤2^61)(s0 s:AS)(p:Nat)(st:List UInt8×Bool)(iH:st.1.length≤100)(h:gb s0 s p st):
  aj prog Γ 237 [.ptr p 0,.dr N.cells] s (fun r s'=>r=.eo []∧gb s0 s' p (dz N st)):=by
 refine aa func237 rfl ntmps237 results237 (by simp) ?_;have hw:=oP (Γ:=Γ) N hl;unfold af.cells at *
 refine jU @aF.eq_1 fun K hK=>?_;refine ad (hw s0 s p _ (by omega) h) ?_;rintro r s2 ⟨rfl,h2⟩;refine jR hK ?_;clear hK K;simp only[cf,bt,bD,c7,List.toList_toArray,↓bf];try simp only[UP,DF,Nc,↓reduceIte,DT]
 exact jW ⟨rfl,h2⟩
theorem wJ(N:af)(hk:N.key<2^64)(hp:N.parent.length≤100)(s0 s:AS)(p:Nat)(st:List UInt8×Bool)(iH:st.1.length≤100)(h:gb s0 s p st):
  aj prog Γ 163 [.ptr p 0,.dr N.cells] s (fun r s'=>r=.eo []∧gb s0 s' p (dx 1 N.parent (ed 8 N.key st))):=by
 refine aa func163 rfl ntmps163 results163 (by simp) ?_;have FC:(ed 8 N.key st).1.length≤st.1.length+8:=(by unfold ed;split;omega;simp);obtain⟨k,m,y,pa,u⟩:=N;simp only at hk hp FC;unfold af.cells at *
 refine jQ fun K hK=>?_;refine ad (la s0 s p st y hk (by omega) h) ?_;rintro r s1 ⟨rfl,h1⟩;refine jR hK ?_;clear hK K;refine jU @aF.eq_1 fun K hK=>?_;refine ad (fC s0 s1 p _ (al pa .any) pa (.inr ⟨_,rfl⟩) (by omega) h1) ?_;rintro r s2 ⟨rfl,h2⟩;refine jR hK ?_;clear hK K;simp only[cf,bt,bD,c7,List.toList_toArray,↓bf];try simp only[UP,DF,Nc,↓reduceIte,DT]
 exact jW ⟨rfl,h2⟩
theorem lZ(mark:Nat)(hm:mark<256)(k:FuncId)(cd:List AV)(hk:ag prog k=true)(F:List UInt8×Bool)
  (hF:∀s0 s p,gb s0 s p ([UInt8.ofNat mark],false)→aj prog Γ k (.ptr p 0::cd) s (fun r s'=>r=.eo []∧gb s0 s' p F)) (hl:F.1.length≤2^45) (s:AS):
  aj prog Γ 162 [.v (.int .i64 (mark:Int)),.qx k cd] s (fun r s'=>r=.eo [al (if F.2=true then[] else F.1) .any,.v (.bool !F.2)]∧s'=s):=by
 refine aa func162 rfl ntmps162 results162 (by simp) ?_;have h0:bm 1 (mark:Int) ([],false)=([UInt8.ofNat mark],false):=by
  unfold bm;rw[if_pos ⟨by omega,by omega⟩];simp[ed,be]
 refine jA ?_;refine jQ fun K hK=>?_;refine ad (qw s) ?_;rintro r s1 ⟨p,rfl,q1⟩;refine jR hK ?_;clear hK K;refine jQ fun K hK=>?_;refine ad (fB s s1 p ([],false) (mark:Int) (by omega) (by simp) q1) ?_;rintro r s2 ⟨rfl,q2⟩;rw[h0] at q2;refine jR hK ?_;clear hK K;refine wS fun K hK=>?_;simp only[↓DN,Qa,Qb,Qc,Qd,Qe,Qf,Qg,Qh,reduceCtorEq,↓reduceIte,Na,Nb,Nc,Nk,Nf,Ng,Nh,Za,Zb,Zc,TT,hk];refine ad (hF s s2 p q2) ?_;rintro r s3 ⟨rfl,q3⟩;refine jR hK ?_;clear hK K;refine jK (iC s s3 p _ hl q3) ?_;rintro s4 rfl;refine jI ?_;exact⟨_,s,AV.aB.refl _,q3.le,rfl,rfl⟩
end Go.Proofs.YtbiefppedlodiaaGreatDoor
