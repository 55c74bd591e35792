/- Contracts of functions, each walked once; each theorem states its conditions. -/
import Derived.Test.YtbiefppedlodiaaGreatDoorAMp6
import Derived.Test.YtbiefppedlodiaaGreatDoorW1
import Derived.Test.YtbiefppedlodiaaGreatDoorW6
import Derived.Test.YtbiefppedlodiaaGreatDoorW5
import Derived.Test.YtbiefppedlodiaaGreatDoorW2
import Derived.Test.YtbiefppedlodiaaGreatDoorW4
import Derived.Test.YtbiefppedlodiaaGreatDoorW3
set_option linter.unusedSimpArgs false
set_option linter.unusedVariables false
open Nat renaming reduceLT → Na, reduceLeDiff → Nb, reduceEqDiff → Nc, reduceAdd → Nk, reduceMul → Nf, reducePow → Ng, reduceSub → Nh, reduceBEq → Nz
open Int renaming reduceLT → Za, reduceLE → Zb, reduceToNat → Zc
open And renaming intro → Ai
open Go.AM renaming ashift → Qa, aconv → Qb, aindexAddr → Qc, aindex → Qd, aslice → Qe, abuiltin → Qf, awp_reg_seq → wS, awp_reg_end → wE, awp_seq_k → wK, awp_cond_k → wC
open Go.AM.AV renaming cells → Qg, one → Qh
set_option maxRecDepth 100000
set_option maxHeartbeats 8000000
namespace Go.Proofs.YtbiefppedlodiaaGreatDoor
open Go Go.AM Go.Proofs Tryz
variable{Γ:Nat→List AV}
def dP(n:Nat):AV:=.v (.int .u64 n)
def EP(l:List Nat):AV:=.sl 1 l.length (l.map dP) .any
def CF(t:List ah)(fresh:List Int)(up:Nat):List Int:=EI (fun x=>ep up x&&decide (cB t x)) fresh (aI t)
def mX(t:List ah)(leaf:Nat)(keys:List Nat)(fresh:List Int):Nat→List ah×List UInt8
 |0=>(t,[])
 |i+1=>
  let j:=(az leaf (aI t)).length-1-i
  let up:=(az leaf (aI t)).getD j 0
  let p:=mX t leaf keys fresh i
  let b:ah:=⟨2,[],keys.getD j 0,p.2,CF t fresh up⟩
  (p.1.set up b,od b (wg t (bY (nodeAt leaf (aI t) j))))
theorem gJ(t:List ah)(leaf:Nat)(keys:List Nat)(fresh:List Int):∀i,(mX t leaf keys fresh i).1.length=t.length
 |0=>rfl
 |i+1=>by simp only[mX,List.length_set];exact gJ t leaf keys fresh i
def eJ(t:List ah)(leaf key:Nat)(keys:List Nat)(fresh:List Int):List ah:=
 let p:=mX t leaf keys fresh (az leaf (aI t)).length
 p.1.set (2*leaf) {nd p.1 (2*leaf) with key:=key,parent:=p.2}
def ZY(s:AS)(t:List ah)(leaf:Nat)(keys:List Nat)(fresh:List Int)(O cap sx BO rZ:Nat)(rest:List AV)(i:Nat)(s':AS):Prop:=
 s.le s'∧s'.aw sx=some [.ig O 0 5 t.length cap]∧s'.aw BO=some [aG (aP (cQ leaf (aI t))) .any]∧s'.aw rZ=some [al (mX t leaf keys fresh i).2 .any]∧s'.aw O=some (aK ah.cells (mX t leaf keys fresh i).1++rest)
theorem AE(dU:Γ 0=eA Sha.H0)(gy:Γ 1=Sha.K.map wV)(hG:Γ 3=fi.map oJ)(t:List ah)(ht:eI t)(LJ:t.length≤2^30)(hw:∀n∈t,lX n)(hr:bf t)(leaf:Nat)(hm:cB t leaf)
  (key:Nat) (keys:List Nat) (hk:keys.length=(az leaf (aI t)).length) (fresh:List Int) (hf:fresh.length≤2^40) (s:AS):
  aj prog Γ 50 [aW t,.v (.int .i64 leaf),.v (.int .u64 key),EP keys,aG fresh .any] s (fun r s'=>FB s s' r (eJ t leaf key keys fresh)):=by
 refine yi func50 rfl ntmps50 results50 (by simp) ?_;have xds:aI t≠0:=hr.1;obtain⟨bT,kq⟩:Fit (aI t)∧t.length=2*aI t-1:=by
  rcases bG (t:=t) with h|h
  ·exact absurd h xds
  ·exact h
 have oZ:=bT.le;have IP:leaf<aI t:=by
  have:=hm.2.1;omega
 have uY:=fun s=>Dk (Γ:=Γ) t (by omega) LJ hw s;have cD:=fun s=>fE (Γ:=Γ) hG t ht s;rw[if_pos hr] at cD;have jb:=fun s=>iF (Γ:=Γ) hG leaf (aI t) bT IP s;have Gi:=fun s=>iK (Γ:=Γ) hG leaf (aI t) bT IP s;unfold aW EP aG at *
 refine qv ?_;intro K hK;refine jM ?_;intro o5 h5 o8 h8 o9 h9;refine hK _ _ ?_;clear hK K;refine Cr (d:=9) rfl h9 ?_;refine Cr (d:=8) rfl h8 ?_;refine Cr (d:=5) rfl h5 ?_;clear h5 h8 h9;refine qv ?_;intro K hK;refine jM ?_;refine ad (uY _) ?_;rintro r s1 ⟨O,cap,rest,rfl,hO,gB,Mb,mw⟩;refine jM ?_;intro sx h11;refine hK _ _ ?_;clear hK K;refine qv ?_;intro K hK;refine jM ?_;refine ad (cD _) ?_;rintro r s2 ⟨rfl,rfl⟩;refine jR hK ?_;clear hK K;refine qv ?_;intro K hK;refine jM ?_;refine ad (jb _) ?_;rintro r s3 ⟨rfl,rfl⟩;refine jM ?_;refine ad (Gi _) ?_;rintro r s4 ⟨rfl,rfl⟩;refine jM ?_;intro BO h14;refine hK _ _ ?_;clear hK K;refine qv ?_;intro K hK;refine jM ?_;intro rZ GP;refine hK _ _ ?_;clear hK K;obtain⟨M0,h14⟩:=zi h14;obtain⟨M3,GP⟩:=zi GP;obtain⟨IQ,GP⟩:=zi GP;have T9:O≠sx:=(fun e=>by rw[e,h11] at hO;cases hO);have ZZ:O≠BO:=(fun e=>by rw[e,h14] at hO;cases hO);have Qv:O≠rZ:=(fun e=>by rw[e,GP] at hO;cases hO);have m11:s.aw sx=none:=AS.le_none mw h11;have m14:s.aw BO=none:=AS.le_none mw h14;have RW:s.aw rZ=none:=AS.le_none mw GP;have YW:(aP (az leaf (aI t))).length=(az leaf (aI t)).length:=br _;have xz:=fC bT IP;refine Jv (AS.uN (cs':=[al [] .any]) (AS.af _ _ _) (.cons AV.aM .nil)) ?_;rw[AS.set_set];refine rh (by decide) ?_;intro K hK;refine jM ?_;refine ad (yp _ _ _) ?_;rintro r s5 ⟨rfl,rfl⟩;refine jR hK ?_;clear hK K;refine⟨157,_,_,fun i s'=>ZY s t leaf keys fresh O cap sx BO rZ rest i s',by simp only[aN,aB,YW,Nc,↓reduceIte],by kernel_rfl,yq _ _ YW (by omega),by simp,?_,?_,?_⟩
 ·refine⟨AS.aF (AS.aF (AS.aF mw m11 _) m14 _) RW _,?_,?_,AS.af _ _ _,?_⟩
  ·rw[AS.ao _ (Ne.symm IQ),AS.ao _ (Ne.symm M0),AS.af]
  ·rw[AS.ao _ (Ne.symm M3),AS.af];rfl
  ·rw[AS.ao _ Qv,AS.ao _ ZZ,AS.ao _ T9,hO];rfl
 ·rintro i0 x s2 hx ⟨eW,Oe,q14,Ad,qO⟩;obtain⟨fD,rfl⟩:i0<(az leaf (aI t)).length∧x=[aJ (((az leaf (aI t)).length-1-i0:Nat):Int),aJ ((aP (az leaf (aI t))).getD ((az leaf (aI t)).length-1-i0) 0)]:=by
   rw[List.getElem?_map] at hx;cases hh:(List.range (az leaf (aI t)).length)[i0]? with
   |none=>rw[hh] at hx;cases hx
   |some v=>
    rw[hh] at hx;obtain⟨h1,h2⟩:=List.getElem?_eq_some_iff.1 hh;simp at h1 h2;subst h2;simp at hx;exact⟨h1,hx.symm⟩
  simp only[zW];have US:(az leaf (aI t)).length-1-i0<(az leaf (aI t)).length:=(by omega);obtain⟨j,hj⟩:∃j,j=(az leaf (aI t)).length-1-i0:=⟨_,rfl⟩;have hup:(aP (az leaf (aI t))).getD j 0=(((az leaf (aI t)).getD j 0:Nat):Int):=by
   rw[←hj] at US;simp[aP,List.getD,US]
  rw[←hj] at US⊢;rw[hup];obtain⟨up,Qw⟩:∃up,up=(az leaf (aI t)).getD j 0:=⟨_,rfl⟩;rw[←Qw];simp only[aJ];obtain⟨par,LI⟩:∃par,par=(mX t leaf keys fresh i0).2:=⟨_,rfl⟩;obtain⟨TZ,hTZ⟩:∃TZ,TZ=(mX t leaf keys fresh i0).1:=⟨_,rfl⟩;rw[←LI] at Ad;rw[←hTZ] at qO;have hkj:j<keys.length:=(by omega);have nr:(List.take 1 (List.drop j (keys.map dP)))[0]? =some (AV.v (.int .u64 (keys.getD j 0:Nat))):=by
   simp[List.getElem?_take,List.getD,hkj,dP]
  have cA:(0:Int)≤((j:Nat):Int):=(by omega);have bJ:((j:Nat):Int)<((keys.length:Nat):Int):=(by omega);refine jA ?_;refine jC ?_;refine⟨rfl,?_⟩;refine ag ?_;unfold al at Ad;refine ef T.mixed [(rZ,[.sl 1 par.length (par.map ae) .any])] [6,7] [4] [] (by kernel_rfl) (by simp only[aH,aL,and_true];simp[AS.set,aB,Ad]) ?_;intro K hK;simp only[↓bt,↓a8,dx,dt,aR,aV,aH,aL,List.any_cons,List.any_nil,List.contains_cons,List.contains_nil,Nat.reduceBEq,Bool.or_false,Bool.or_true,Bool.or_self,Bool.false_or,↓DN,Qa,Qb,Qc,Qd,Qe,Qf,Qg,Qh,reduceCtorEq,↓reduceIte,Na,Nb,Nc,Nk,Nf,Ng,Nh,Za,Zb,Zc,TT,cA,bJ,nr,Ad];intro ob qK;have Z1:¬rZ=ob:=(fun e=>by rw[←e,Ad] at qK;cases qK);simp only[if_neg Z1,true_and,and_true];refine hK _ _ ?_;clear hK K;refine Bg (AS.uN (cs':=[.v (.int .i64 2),al [] .any,.v (.int .u64 (keys.getD j 0:Nat)),al par .any,bU]) (AS.af _ _ _) (.cons (.refl _) (.cons AV.aM (.cons (.refl _) (.cons (.refl _) (.cons (.refl _) .nil)))))) ?_;rw[AS.set_set];have hso:=AS.af s2 ob [.v (.int .i64 2),al [] .any,.v (.int .u64 (keys.getD j 0:Nat)),al par .any,bU];have Z2:s2.le (s2.set ob [.v (.int .i64 2),al [] .any,.v (.int .u64 (keys.getD j 0:Nat)),al par .any,bU]):=AS.aF (AS.le.refl _) qK _;generalize s2.set ob [.v (.int .i64 2),al [] .any,.v (.int .u64 (keys.getD j 0:Nat)),al par .any,bU]=s3 at hso Z2⊢;obtain⟨P,hP⟩:∃P:Int→Bool,P=fun x=>ep up x&&decide (cB t x):=⟨_,rfl⟩;obtain⟨S,hS⟩:∃S,S=fresh.mergeSort fun x y=>decide (x≤y):=⟨_,rfl⟩;have TM:S.length≤2^40:=(by rw[hS];simpa using hf);have hU:je P S=CF t fresh up:=by
   rw[hS,hP];refine Qu _ _ _ fun x hx=>?_;simp only[Bool.and_eq_true,decide_eq_true_eq] at hx;obtain⟨-,h1,h2,-⟩:=hx;exact⟨h1,by omega⟩
  have M4:=fun s=>AD (Γ:=Γ) fresh hf s;rw[←hS] at M4;have jk:=fun f s=>iI (Γ:=Γ) t ht.1 f s;unfold aW at jk;unfold aG at M4;refine wK fun K hK=>?_;refine jQ fun K hK=>?_;refine ad (Cy _ _ _) ?_;rintro r s4 ⟨rfl,rfl⟩;simp only[↓cx,↓bW,bE,↓bt,↓a8,dx,dt,aR,aV,aH,aL,List.any_cons,List.any_nil,DX,Nat.reduceBEq,↓DN,Qa,Qb,Qc,Qd,Qe,Qf,Qg,Qh,reduceCtorEq,↓reduceIte,Na,Nb,Nc,Nk,Nf,Ng,Nh,Za,Zb,Zc,TT];refine ad (M4 _) ?_;rintro r s5 ⟨rfl,rfl⟩;simp only[↓cx,↓bW,bE,↓bt,↓a8,dx,dt,aR,aV,aH,aL,List.any_cons,List.any_nil,DX,Nat.reduceBEq,↓DN,Qa,Qb,Qc,Qd,Qe,Qf,Qg,Qh,reduceCtorEq,↓reduceIte,Na,Nb,Nc,Nk,Nf,Ng,Nh,Za,Zb,Zc,TT];refine hK _ _ ?_;clear hK K;refine ag ?_;refine aD (fun E s'=>∃(i:Nat)(x:AV),i≤S.length∧E 43=.sl 1 S.length (S.map aJ) .any∧E 44=.v (.int .i64 S.length)∧E 45=.v (.int .i64 i)∧E 5=.cN [.sl 5 t.length (aK ah.cells t) .any]∧E 11=.ptr sx 0∧E 14=.ptr BO 0∧E 15=.ptr rZ 0∧E 16=.v (.int .i64 j)∧E 17=.v (.int .i64 up)∧E 18=.ptr ob 0∧
    s'.aw ob=some [.v (.int .i64 2),al [] .any,.v (.int .u64 (keys.getD j 0:Nat)),al par .any,x]∧cZ 1 s2 s' x (je P (S.take i)).length ((je P (S.take i)).map aJ)∧s2.le s')
   (fun E _=>match E 45 with |.v (.int _ i)=>S.length-i.toNat|_=>0) ?_ ?_
  ·exact⟨0,bU,Nat.zero_le _,rfl,rfl,rfl,rfl,rfl,rfl,rfl,rfl,rfl,rfl,hso,by simpa[je] using cZ.nil 1 s2 s5,Z2⟩
  ·rintro E1 s6 ⟨i,x,hi,U7,Ua,Qx,e5,wM,U8,Ob,IB,Ub,Of,Aw,hx,nA⟩ -
   by_cases aY:i<S.length
   ·have ns:((i:Nat):Int)<((S.length:Nat):Int):=(by omega);have pb:(0:Int)≤((i:Nat):Int):=(by omega);have fA:(List.take 1 (List.drop i (S.map aJ)))[0]? =some (AV.v (.int .i64 S[i])):=by
     simp[List.getElem?_take,aY,aJ]
    have dK:je P (S.take (i+1))=zj P (je P (S.take i)) S[i]:=(by rw[List.take_succ_eq_append_getElem aY,Hy]);generalize S[i]=f at fA dK;have xi9:(je P (S.take i)).length≤2^40:=Nat.le_trans (J6 P _) (by rw[List.length_take];omega);generalize je P (S.take i)=acc at *
    obtain⟨Hz,R9⟩:∃Hz,Hz=je P (S.take (i+1)):=⟨_,rfl⟩;rw[←R9] at dK;refine jB (Ai @Ua (Ai @Qx (decide_eq_true ns))) ?_;refine wK fun K2 aU=>?_;refine jE ?_;refine ab ?_;refine aU _ _ ?_;clear aU K2;refine wK fun K3 bq=>?_;refine ag ?_;refine jB (Ai @U7 (Ai @Qx (Ai @ns (Ai @pb @fA)))) ?_;have bX:∀(E:Env)(s7:AS)(x':AV),E 43=.sl 1 S.length (S.map aJ) .any→E 44=.v (.int .i64 S.length)→E 45=.v (.int .i64 i)→E 5=.cN [.sl 5 t.length (aK ah.cells t) .any]→E 11=.ptr sx 0→E 14=.ptr BO 0→E 15=.ptr rZ 0→E 16=.v (.int .i64 j)→E 17=.v (.int .i64 up)→E 18=.ptr ob 0→
      s7.aw ob=some [.v (.int .i64 2),al [] .any,.v (.int .u64 (keys.getD j 0:Nat)),al par .any,x']→cZ 1 s2 s7 x' Hz.length (Hz.map aJ)→s2.le s7→K3 E s7:=by
     intro E s7 x' f43 f44 f45 f5 f11 f14 f15 f16 f17 f18 xdv fx zZ;refine bq _ _ ?_;clear bq K3;refine jD (Ai @f45 (bd i (by omega))) ?_;refine⟨⟨i+1,x',aY,f43,f44,rfl,f5,f11,f14,f15,f16,f17,f18,xdv,by rw[←R9];exact fx,zZ⟩,?_⟩;simp only[Qx,aB,↓reduceIte];omega
    clear bq;have Z3:P f=(ep up f&&decide (cB t f)):=(by rw[hP]);have Oo:=fun s=>m8 (Γ:=Γ) hG up f s;have hmf:=fun s=>jk f s;have O9:=fun s=>aj.gF (.cons hx.aE (.cons (.refl _) .nil)) (iJ (Γ:=Γ) acc f (by omega) s);generalize ep up f=b1 at Z3 Oo;generalize decide (cB t f)=b2 at Z3 hmf;have vz:P f=false→Hz=acc:=(fun h=>by rw[dK];exact if_neg (by rw[h];simp));have B3:f∈acc→Hz=acc:=(fun h=>by rw[dK];exact if_neg fun k=>k.2 h);have MO:P f=true→f∉acc→Hz=acc++[f]:=(fun h k=>by rw[dK];exact if_pos ⟨h,k⟩);refine jS @Ub fun K hK=>?_;refine ad (Oo _) ?_;rintro r s7 ⟨rfl,rfl⟩;cases b1 with
    |false=>
     refine jR hK ?_;clear hK K;refine jF ?_;refine ab ?_;simp only[aq,aA,if_true,if_false];rw[vz (by rw[Z3];rfl)] at bX;exact bX _ _ x U7 Ua Qx e5 wM U8 Ob IB Ub Of Aw hx nA
    |true=>
     refine jN @e5 ?_;refine ad (hmf _) ?_;rintro r s8 ⟨rfl,rfl⟩;cases b2 with
     |false=>
      refine jR hK ?_;clear hK K;refine jF ?_;refine ab ?_;simp only[aq,aA,if_true,if_false];rw[vz (by rw[Z3];rfl)] at bX;exact bX _ _ x U7 Ua Qx e5 wM U8 Ob IB Ub Of Aw hx nA
     |true=>
      refine jN (Ai @Of @Aw) ?_;refine ad (O9 _) ?_;rintro r s9 ⟨rfl,rfl⟩;by_cases LF:f∈acc
      ·rw[decide_eq_true LF];refine jR hK ?_;clear hK K;refine jF ?_;refine ab ?_;simp only[aq,aA,if_true,if_false];rw[B3 LF] at bX;exact bX _ _ x U7 Ua Qx e5 wM U8 Ob IB Ub Of Aw hx nA
      ·rw[decide_eq_false LF];rw[MO (by rw[Z3];rfl) LF,List.map_append,List.length_append] at bX;refine jR hK ?_;clear hK K;refine jE ?_;rcases hx with⟨rfl,fD,sF⟩|⟨tk,ek,rfl,eo,tJ⟩
       ·unfold bU at Aw;refine wE fun K hK=>?_;simp only[↓DN,Qa,Qb,Qc,Qd,Qe,Qf,Qg,Qh,reduceCtorEq,↓reduceIte,Na,Nb,Nc,Nk,Nf,Ng,Nh,Za,Zb,Zc,TT,Of,Aw,List.replicate_succ];intro tk eo;refine hK _ _ (bX _ _ (.sl 1 1 [.v (.int .i64 f)] (.own tk 0)) U7 Ua Qx e5 wM U8 Ob IB Ub Of ?_ ?_ ?_)
        ·rw[AS.af];rfl
        ·have :acc=[]:=List.eq_nil_of_length_eq_zero fD;subst this;exact .inr ⟨tk,0,rfl,by simp[AS.bA,AS.set],aZ nA eo⟩
        ·exact AS.aF (AS.bn nA (aZ nA eo) 0) qK _
       ·refine wE fun K hK=>?_;simp only[↓DN,Qa,Qb,Qc,Qd,Qe,Qf,Qg,Qh,reduceCtorEq,↓reduceIte,Na,Nb,Nc,Nk,Nf,Ng,Nh,Za,Zb,Zc,TT,Of,Aw,eo,List.replicate_succ];refine⟨by omega,by omega,hK _ _ (bX _ _ (.sl 1 (acc.length+1) (acc.map aJ++[.v (.int .i64 f)]) (.own tk (ek+1))) U7 Ua Qx e5 wM U8 Ob IB Ub Of ?_ ?_ ?_)⟩
        ·rw[AS.af];rfl
        ·exact .inr ⟨tk,ek+1,rfl,by simp[AS.bA,AS.set],tJ⟩
        ·exact AS.aF (AS.bn nA tJ (ek+1)) qK _
   ·have ns:¬((i:Nat):Int)<((S.length:Nat):Int):=(by omega);obtain rfl:i=S.length:=(by omega);refine jB (Ai @Ua (Ai @Qx (decide_eq_false ns))) ?_;refine wK fun K2 aU=>?_;refine jF ?_;refine aC ?_;simp only[aA,aq,if_true];refine hK _ _ ?_;clear hK aU K2 K;rw[List.take_length,hU] at hx;obtain⟨U,hUe⟩:∃U,U=CF t fresh up:=⟨_,rfl⟩;rw[←hUe] at hx;obtain⟨b,hb⟩:∃b:ah,b=⟨2,[],keys.getD j 0,par,U⟩:=⟨_,rfl⟩;refine Bg (AS.uN (cs':=b.cells) Aw (by rw[hb];exact .cons (.refl _) (.cons (.refl _) (.cons (.refl _) (.cons (.refl _) (.cons hx.aE .nil)))))) ?_;have U9:=AS.af s6 ob b.cells;have ss:s2.le (s6.set ob b.cells):=AS.aF nA qK _;generalize s6.set ob b.cells=s7 at U9 ss⊢;have r11:=ss.aw _ _ Oe;have r14:=ss.aw _ _ q14;have r15:=ss.aw _ _ Ad;have rO:=ss.aw _ _ qO;have Z4:TZ.length=t.length:=(by rw[hTZ];exact gJ ..);have xdw:up<TZ.length:=by
     have h1:up∈az leaf (aI t):=by
      rw[Qw];simp[List.getD,US]
     have:=(tD bT IP up h1).1;omega
    have Py:(0:Int)≤((up:Nat):Int):=(by omega);have uL:((up:Nat):Int)<((t.length:Nat):Int):=(by omega);have zl:=tR (k:=5) (fun n=>jy n) xdw b rest;have Pb:(aK ah.cells TZ++rest).length=TZ.length*5+rest.length:=(by rw[List.length_append,Go.AM.cj jy]);generalize aK ah.cells TZ++rest=R at rO zl Pb;have hbc:b.cells=[.v (.int .i64 2),al [] .any,.v (.int .u64 (keys.getD j 0:Nat)),al par .any,aG U .any]:=(by rw[hb];rfl);rw[hbc] at zl U9;simp only[bp] at zl;unfold al aG at U9 zl;simp only[List.length_nil,List.map_nil] at U9 zl;refine jS (Ai @wM (Ai @Ub (Ai @Of (Ai @r11 (Ai @U9 (Ai @rO (Ai @Py @uL))))))) fun K hK=>?_;refine⟨by omega,hK _ _ ?_⟩;clear hK K;rw[zl];have nOb:O≠ob:=(fun e=>by rw[←e,qO] at qK;cases qK);have xdx:BO≠ob:=(fun e=>by rw[←e,q14] at qK;cases qK);have xjd:sx≠ob:=(fun e=>by rw[←e,Oe] at qK;cases qK);have Z5:s.le (s7.set O (aK ah.cells (TZ.set up b)++rest)):=AS.aF (eW.trans ss) Mb _;have Z6:(s7.set O (aK ah.cells (TZ.set up b)++rest)).aw sx=_:=(AS.ao _ (Ne.symm T9) _).trans r11;have Sa:(s7.set O (aK ah.cells (TZ.set up b)++rest)).aw BO=_:=(AS.ao _ (Ne.symm ZZ) _).trans r14;have Z7:(s7.set O (aK ah.cells (TZ.set up b)++rest)).aw rZ=_:=(AS.ao _ (Ne.symm Qv) _).trans r15;have uO:=AS.af s7 O (aK ah.cells (TZ.set up b)++rest);have ub:(s7.set O (aK ah.cells (TZ.set up b)++rest)).aw ob=_:=(AS.ao _ (Ne.symm nOb) _).trans U9;generalize s7.set O (aK ah.cells (TZ.set up b)++rest)=s8 at Z5 Z6 Sa Z7 uO ub⊢;have GO:(aP (cQ leaf (aI t))).length=(az leaf (aI t)).length:=(by simp[br,cQ]);have Sb:(List.take 1 (List.drop j ((aP (cQ leaf (aI t))).map aJ)))[0]? =some (AV.v (.int .i64 (bY (nodeAt leaf (aI t) j):Nat))):=by
     simp[List.getElem?_take,aP,cQ,US,aJ]
    have IU:=fun s=>Az (Γ:=Γ) dU gy hG t ht (bY (nodeAt leaf (aI t) j):Nat) s;have zm:=fun s=>vp (Γ:=Γ) dU gy b (by rw[hb,hUe];exact Nat.le_trans (MZ _ _ _) (by omega)) (wg t (bY (nodeAt leaf (aI t) j):Nat)) (by
     unfold wg;split
     ·exact Nat.le_trans (vq t _ _) (by omega)
     ·simp) s
    rw[hbc] at zm;have Pz:(0:Int)≤((j:Nat):Int):=(by omega);have Mc:((j:Nat):Int)<(((aP (cQ leaf (aI t))).length:Nat):Int):=(by omega);obtain⟨HH,hHH⟩:∃HH,HH=wg t (bY (nodeAt leaf (aI t) j):Nat):=⟨_,rfl⟩;rw[←hHH] at IU zm;obtain⟨PD,hPD⟩:∃PD,PD=od b HH:=⟨_,rfl⟩;rw[←hPD] at zm;obtain⟨SD,hSD⟩:∃SD,SD=aP (cQ leaf (aI t)):=⟨_,rfl⟩;rw[←hSD] at GO Sb Sa Mc;unfold aW at IU;unfold al at IU zm;unfold aG at Sa zm;simp only[List.length_nil,List.map_nil] at zm;generalize aK ah.cells t=XT at *
    have M5:¬ob=BO:=fun e=>xdx e.symm;have Uc:¬ob=rZ:=fun e=>Z1 e.symm;refine cV T.mixed [(ob,[.v (.int .i64 2),.sl 1 0 [] .any,.v (.int .u64 (keys.getD j 0:Nat)),.sl 1 par.length (par.map ae) .any,.sl 1 U.length (U.map aJ) .any]),(BO,[.sl 1 SD.length (SD.map aJ) .any])] [6,7,8] [0,2] [] (by kernel_rfl) (by simp only[aH,aL,and_true];simp[AS.set,aB,Sa,ub,Z7]) ?_;intro K hK;simp only[↓bt,↓a8,dx,dt,aR,aV,aH,aL,List.any_cons,List.any_nil,List.contains_cons,List.contains_nil,Nat.reduceBEq,Bool.or_false,Bool.or_true,Bool.or_self,Bool.false_or,↓DN,Qa,Qb,Qc,Qd,Qe,Qf,Qg,Qh,reduceCtorEq,↓reduceIte,Na,Nb,Nc,Nk,Nf,Ng,Nh,Za,Zb,Zc,TT,e5,U8,Ob,IB,Of,Pz,Mc,Sb,Sa,ub,Z7,M5,Uc];refine ad (IU _) ?_;rintro r s9 ⟨rfl,rfl⟩;simp only[↓cx,↓bW,bE,↓bt,↓a8,dx,dt,aR,aV,aH,aL,List.any_cons,List.any_nil,DX,Nat.reduceBEq,↓DN,Qa,Qb,Qc,Qd,Qe,Qf,Qg,Qh,reduceCtorEq,↓reduceIte,Na,Nb,Nc,Nk,Nf,Ng,Nh,Za,Zb,Zc,TT,Sa,ub,Z7,M5,Uc];refine ad (zm _) ?_;rintro r Pf ⟨rfl,rfl⟩;have Z8:¬BO=rZ:=fun e=>M3 e.symm;simp only[↓cx,↓bW,bE,↓bt,↓a8,dx,dt,aR,aV,aH,aL,List.any_cons,List.any_nil,DX,Nat.reduceBEq,↓DN,Qa,Qb,Qc,Qd,Qe,Qf,Qg,Qh,reduceCtorEq,↓reduceIte,Na,Nb,Nc,Nk,Nf,Ng,Nh,Za,Zb,Zc,TT,Ob,Sa,ub,Z7,M5,Uc,Z8];refine hK _ _ ?_;clear hK K;simp only[aq,true_and];have kg:j=(az leaf (aI t)).length-1-i0:=hj;refine⟨AS.aF Z5 RW _,(AS.ao _ (Ne.symm IQ) _).trans Z6,(AS.ao _ (Ne.symm M3) _).trans (by rw[Sa,hSD];rfl),?_,?_⟩
    ·rw[AS.af,hPD,hHH,hb,hUe,LI,Qw,hj];rfl
    ·rw[AS.ao _ Qv,uO,hb,hUe,LI,Qw,hTZ,hj];rfl
 ·rw[show((List.range (az leaf (aI t)).length).map fun i=>[aJ (((az leaf (aI t)).length-1-i:Nat):Int),aJ ((aP (az leaf (aI t))).getD ((az leaf (aI t)).length-1-i) 0)]).length=(az leaf (aI t)).length by simp];rintro s2 ⟨eW,Oe,q14,Ad,qO⟩;have Z4:=gJ t leaf keys fresh (az leaf (aI t)).length;obtain⟨W,hW⟩:∃W,W=eJ t leaf key keys fresh:=⟨_,rfl⟩;rw[←hW];unfold eJ at hW;simp only at hW;generalize (mX t leaf keys fresh (az leaf (aI t)).length).2=par at *
  generalize (mX t leaf keys fresh (az leaf (aI t)).length).1=TZ at *
  have hu:2*leaf<TZ.length:=(by omega);have zl:=yD hu key par rest;have Pb:(aK ah.cells TZ++rest).length=TZ.length*5+rest.length:=(by rw[List.length_append,Go.AM.cj jy]);rw[←hW] at zl;have LA:W.length=t.length:=(by rw[hW,List.length_set,Z4]);generalize aK ah.cells TZ++rest=R at qO zl Pb;unfold al at Ad zl;have cA:(0:Int)≤((2*leaf:Nat):Int):=(by omega);have bJ:((2*leaf:Nat):Int)<((t.length:Nat):Int):=(by omega);have xdy:2*leaf<t.length:=(by omega);have Z9:¬sx=O:=fun e=>T9 e.symm;have xdz:¬rZ=O:=fun e=>Qv e.symm;refine ef T.mixed [(sx,[.ig O 0 5 t.length cap]),(rZ,[.sl 1 par.length (par.map ae) .any])] [10,13] [0,3,7] [] (by kernel_rfl) (by simp only[aH,aL,and_true];simp[AS.set,aB,Oe,Ad]) ?_;intro K hK;simp only[↓bt,↓a8,dx,dt,aR,aV,aH,aL,List.any_cons,List.any_nil,List.contains_cons,List.contains_nil,Nat.reduceBEq,Bool.or_false,Bool.or_true,Bool.or_self,Bool.false_or,↓DN,Qa,Qb,Qc,Qd,Qe,Qf,Qg,Qh,reduceCtorEq,↓reduceIte,Na,Nb,Nc,Nk,Nf,Ng,Nh,Za,Zb,Zc,TT,bZ leaf (by omega),cA,bJ,au,xdy,Oe,Ad,qO,Z9,xdz,IQ,Ne.symm IQ];refine⟨by omega,by rw[List.length_set];omega,hK _ _ ?_⟩;clear hK K;rw[zl];have Z6:(s2.set O (aK ah.cells W++rest)).aw sx=_:=(AS.ao _ Z9 _).trans Oe;have uO:=AS.af s2 O (aK ah.cells W++rest);have gH:s.le (s2.set O (aK ah.cells W++rest)):=AS.aF eW Mb _;generalize s2.set O (aK ah.cells W++rest)=s3 at Z6 uO gH⊢;refine jB @Z6 ?_;refine jI ?_;exact jW ⟨O,cap,rest,by rw[LA],uO,by rw[LA];exact gB,Mb,gH⟩
theorem FB.settle{s s':AS}{r:AV}{T:List ah}(h:FB s s' r T):∃s2,b8 Γ s' r s2 (aW T)∧s.le s2:=by
 obtain⟨O,cap,rest,rfl,h1,_,h3,h4⟩:=h;exact⟨_,b8.outer h1 (Go.AM.cj jy _),AS.qj h4 h3⟩
theorem tL(dU:Γ 0=eA Sha.H0)(gy:Γ 1=Sha.K.map wV)(hG:Γ 3=fi.map oJ)(t:List ah)(ht:eI t)(LJ:t.length≤2^30)(hw:∀n∈t,lX n)(hr:bf t)(leaf:Nat)(hm:cB t leaf)
  (key:Nat) (keys:List Nat) (hk:keys.length=(az leaf (aI t)).length) (fresh:List Int) (hf:fresh.length≤2^40) (s:AS):
  aj prog Γ 50 [aW t,.v (.int .i64 leaf),.v (.int .u64 key),EP keys,aG fresh .any] s (fun r s'=>r=aW (eJ t leaf key keys fresh)∧s'=s):=by
 refine aj.forget (aj.settle (AE dU gy hG t ht LJ hw hr leaf hm key keys hk fresh hf s) ?_ (R:=fun r s'=>r=aW (eJ t leaf key keys fresh)∧s.le s')) fun r s' ⟨h1,h2⟩=>⟨s,h2,h1,rfl⟩;intro r s' h;obtain⟨s2,h1,h2⟩:=FB.settle (Γ:=Γ) h;exact⟨_,_,h1,rfl,h2⟩
def iX(n:Nat):Bool:=decide (2≤(n:Int))&&decide ((n:Int)≤2305843009213693949)
def Bs(t:List ah)(leaf:Nat)(fresh:List Int)(q:cy)(i:Nat):Bool:=
 iX q.key&&decide (q.dy.length=(bC t (bY (nodeAt leaf (aI t) i):Nat) fresh).length)
def va(t:List ah)(leaf:Nat)(fresh:List Int)(l:List cy):Bool:=(List.range l.length).all fun i=>Bs t leaf fresh (l.getD i ⟨0,[]⟩) i
def pV(t:List ah)(leaf:Int)(p:dN)(fresh:List Int):List ah×Int:=
 if lj t leaf≠0 then([],lj t leaf)
 else if p.steps.length≠(az leaf.toNat (aI t)).length∨iX p.key=false then([],45)
 else if va t leaf.toNat fresh p.steps=false then([],45)
 else
  let out:=eJ t leaf.toNat p.key (p.steps.map (·.key)) fresh
  if(nd out (2*leaf.toNat)).parent=p.parent then(out,0) else([],45)
theorem fX{t:List ah}{i:Int}:lj t i=0↔bf t∧cB t i:=by
 unfold lj;split
 ·split <;>simp_all
 ·simp_all
theorem Ab(dU:Γ 0=eA Sha.H0)(gy:Γ 1=Sha.K.map wV)(hG:Γ 3=fi.map oJ)(t:List ah)(ht:eI t)(LJ:t.length≤2^30)(hw:∀n∈t,lX n)(leaf:Int)
  (p:dN) (hp:p.steps.length≤2^40) (fresh:List Int) (hf:fresh.length≤2^40) (s:AS):
  aj prog Γ 15 [aW t,.v (.int .i64 leaf),.agg p.cells,aG fresh .any] s (fun r s'=>r=.eu [aW (pV t leaf p fresh).1,.v (.int .i64 (pV t leaf p fresh).2)]∧s'=s):=by
 refine aa func15 rfl ntmps15 results15 (by simp) ?_;have EG:=fun s=>pS (Γ:=Γ) hG t ht leaf s;have cD:=fun s=>fE (Γ:=Γ) hG t ht s;have Tj:=fun n s=>cn (Γ:=Γ) n s;have dV:=fun x s=>jt (Γ:=Γ) hG t ht x fresh (by omega) s;have LW:=fun hr leaf hm key keys hk s=>tL (Γ:=Γ) dU gy hG t ht LJ hw hr leaf hm key keys hk fresh hf s;obtain⟨A,hA⟩:∃A,A=pV t leaf p fresh:=⟨_,rfl⟩;rw[←hA];have sW:(AV.v (.slice none 0 0)).aE (aW []):=AV.aM;obtain⟨py,Va,sG⟩:=p;unfold dN.cells;unfold aW at EG cD dV⊢;unfold aG at dV⊢;simp only at hp;have wL:=fun i(h:i<sG.length)=>mW (c:=cy.cells) (k:=2) (fun _=>rfl) h;generalize hY:aK cy.cells sG=Y at *
 generalize hXe:aK ah.cells t=X at *
 unfold al;refine aX 6 (by decide) ?_;intro K hK;refine jM ?_;intro o1 h1;refine hK _ _ o1 _ rfl h1 ?_;clear hK K h1;refine wK fun K hK=>?_;refine jK (EG _) ?_;rintro s1 rfl;by_cases he:lj t leaf=0
 ·have e0:(lj t leaf != 0)=false:=(by simp[he]);refine jB @e0 ?_;refine jF ?_;refine ab ?_;refine hK _ _ ?_;clear hK K;obtain⟨hr,hm⟩:=fX.1 he;obtain⟨lf,rfl⟩:=Int.eq_ofNat_of_zero_le hm.1;obtain⟨bT,kq⟩:Fit (aI t)∧t.length=2*aI t-1:=by
   rcases bG (t:=t) with h|h
   ·exact absurd h hr.1
   ·exact h
  have oZ:=bT.le;have ev:lf<aI t:=by
   have:=hm.2.1;omega
  have xz:=fC bT ev;have Gi:=fun s=>iK (Γ:=Γ) hG lf (aI t) bT ev s;have GO:(aP (cQ lf (aI t))).length=(az lf (aI t)).length:=(by simp[br,cQ]);have N5:∀i,i<(az lf (aI t)).length→(List.take 1 (List.drop i ((aP (cQ lf (aI t))).map aJ)))[0]? =some (AV.v (.int .i64 (bY (nodeAt lf (aI t) i):Nat))):=by
   intro i hi;simp[List.getElem?_take,aP,cQ,hi,aJ]
  unfold aG at Gi;generalize aP (cQ lf (aI t))=SD at *
  rw[if_pos hr] at cD;unfold pV at hA;rw[if_neg (by rw[he];simp)] at hA;simp only[Int.toNat_natCast] at hA;refine jQ fun K hK=>?_;refine ad (cD _) ?_;rintro r s2 ⟨rfl,rfl⟩;refine jM ?_;refine ad (Gi _) ?_;rintro r s3 ⟨rfl,rfl⟩;refine jR hK ?_;clear hK K;have fW:A=([],45)→∀(E:Env)(s5:AS),s3.le s5→E 8=.v (.slice none 0 0)→E 9=.v (.int .i64 45)→bz prog (#[ResultVar.tmp 8,ResultVar.tmp 9]:Array ResultVar).toList (fun r s'=>r=.eu [.sl 5 A.1.length (aK ah.cells A.1) .any,.v (.int .i64 A.2)]∧s'=s3) E s5:=by
   intro hA' E s5 hle f8 f9;rw[hA'];simp only[bz,bF,dm,f8,f9];exact⟨_,_,AV.da sW (AV.aE.refl _),hle,rfl,rfl⟩
  refine wK fun K hK=>?_;by_cases hl:sG.length=(az lf (aI t)).length
  ·have e1:((sG.length:Int) != (SD.length:Int))=false:=(by rw[GO,hl];simp);refine jS @e1 fun K hK=>?_;refine ad (Tj py _) ?_;rintro r s4 ⟨rfl,rfl⟩;obtain⟨q,hq⟩:∃q,q=iX py:=⟨_,rfl⟩;have LP:(decide (2≤(py:Int))&&decide ((py:Int)≤2305843009213693949))=q:=hq.symm;rw[LP];cases q with
   |false=>
    rw[if_pos (.inr hq.symm)] at hA;refine jR hK ?_;clear hK K;refine jE ?_;refine jA ?_;refine a7 ?_;try simp only[aA,aq]
    exact fW hA _ _ (AS.le.refl _) rfl rfl
   |true=>
    rw[if_neg (by rw[←hq];simp[hl])] at hA;refine jR hK ?_;clear hK K;refine jF ?_;refine ab ?_;refine hK _ _ ?_;clear hK K;have xaa:∀i,(h:i<sG.length)→Bs t lf fresh sG[i] i=false→A=([],45):=by
     intro i h hb;rw[hA,if_pos];unfold va;rw[List.all_eq_false];exact⟨i,by simpa using h,by simp[List.getD,h,hb]⟩
    have Ud:(∀i,(h:i<sG.length)→Bs t lf fresh sG[i] i=true)→va t lf fresh sG=true:=by
     intro h;unfold va;rw[List.all_eq_true];intro i hi;have aY:i<sG.length:=(by simpa using hi);simp[List.getD,aY,h i aY]
    obtain⟨kl,uB⟩:∃kl,kl=sG.map (·.key):=⟨_,rfl⟩;have xdA:kl.length=sG.length:=(by rw[uB,List.length_map]);have xdB:∀i,(h:i<sG.length)→(kl.take (i+1)).map dP=(kl.take i).map dP++[.v (.int .u64 (sG[i].key:Nat))]:=by
     intro i h;rw[List.take_succ_eq_append_getElem (by omega),List.map_append];simp[uB,dP]
    rw[←uB] at hA;have NX:s4.le s4:=AS.le.refl _;refine jA ?_;refine wK fun K hK=>?_;refine jA ?_;refine ag ?_;refine aD (fun E s'=>∃(i:Nat)(x:AV),i≤sG.length∧(∀j,(h:j<sG.length)→j<i→Bs t lf fresh sG[j] j=true)∧E 39=.sl 2 sG.length Y .any∧E 40=.v (.int .i64 sG.length)∧E 41=.v (.int .i64 i)∧E 0=.sl 5 t.length X .any∧E 1=.v (.int .i64 lf)∧E 3=.sl 1 fresh.length (fresh.map aJ) .any∧
      E 6=.cN [.v (.int .u64 py),.sl 1 Va.length (Va.map ae) .any,.sl 2 sG.length Y .any]∧E 11=.sl 1 SD.length (SD.map aJ) .any∧E 12=x∧cZ 1 s4 s' x i ((kl.take i).map dP)∧s4.le s')
     (fun E _=>match E 41 with |.v (.int _ i)=>sG.length-i.toNat|_=>0) ?_ ?_
    ·exact⟨0,bU,Nat.zero_le _,fun j _ h=>absurd h (Nat.not_lt_zero _),rfl,rfl,rfl,rfl,rfl,rfl,rfl,rfl,rfl,cZ.nil _ _ _,NX⟩
    ·rintro E1 s5 ⟨i,x,hi,F4,e39,RP,Vb,f0,f1,f3,f6,f11,f12,hx,fY⟩ -
     by_cases aY:i<sG.length
     ·have bJ:((i:Nat):Int)<((sG.length:Nat):Int):=(by omega);have cA:(0:Int)≤((i:Nat):Int):=(by omega);have ns:((i:Nat):Int)<((SD.length:Nat):Int):=(by omega);have cT:=wL i aY;have I9:=N5 i (by omega);have UJ:=xaa i aY;have eo:=xdB i aY;refine jB (Ai @RP (Ai @Vb (decide_eq_true bJ))) ?_;refine wK fun K2 aU=>?_;refine jE ?_;refine ab ?_;refine aU _ _ ?_;clear aU K2;refine wK fun K3 bq=>?_;refine ag ?_;generalize hQe:sG[i]=Q at *
      obtain⟨qk,qs⟩:=Q;unfold cy.cells at cT;refine aX 14 (by decide) ?_;intro K4 dM;refine jN (Ai @e39 (Ai @Vb (Ai @bJ (Ai @cA @cT)))) ?_;intro o2 q2;refine dM _ _ o2 _ rfl q2 ?_;clear dM K4 q2;refine wK fun K4 dM=>?_;have M6:Bs t lf fresh ⟨qk,qs⟩ i=(iX qk&&decide (qs.length=(bC t (bY (nodeAt lf (aI t) i):Nat) fresh).length)):=rfl;have Jm:=fun s=>dV (bY (nodeAt lf (aI t) i):Nat) s;obtain⟨RT,hRT⟩:∃RT,RT=bC t (bY (nodeAt lf (aI t) i):Nat) fresh:=⟨_,rfl⟩;rw[←hRT] at Jm M6;obtain⟨q,U4⟩:∃q,q=iX qk:=⟨_,rfl⟩;have LS:(decide (2≤(qk:Int))&&decide ((qk:Int)≤2305843009213693949))=q:=U4.symm;have Tu:=fun s=>Tj qk s;rw[LS] at Tu;rw[←U4] at M6;refine bj T.mixed [2,14] (by kernel_rfl) ?_;intro K hK;refine jN (Ai @f0 (Ai @f3 @f11)) ?_;refine ad (Tu _) ?_;rintro r s6 ⟨rfl,rfl⟩;cases q with
      |false=>
       refine jR hK ?_;clear hK K;refine jE ?_;refine jA ?_;refine a7 ?_;try simp only[aA,aq]
       exact fW (UJ (by rw[M6];rfl)) _ _ fY rfl rfl
      |true=>
       refine jN (Ai @f0 (Ai @f3 (Ai @f11 (Ai @cA (Ai @ns @I9))))) ?_;refine ad (Jm _) ?_;rintro r s7 ⟨rfl,rfl⟩;by_cases F3:qs.length=RT.length
       ·have e1:((qs.length:Int) != (RT.length:Int))=false:=(by rw[F3];simp);refine jV @e1 hK ?_;clear hK K;refine jF ?_;refine ab ?_;refine dM _ _ ?_;clear dM K4;have bX:∀(E:Env)(s6:AS)(x':AV),E 39=.sl 2 sG.length Y .any→E 40=.v (.int .i64 sG.length)→E 41=.v (.int .i64 i)→E 0=.sl 5 t.length X .any→E 1=.v (.int .i64 lf)→E 3=.sl 1 fresh.length (fresh.map aJ) .any→
          E 6=.cN [.v (.int .u64 py),.sl 1 Va.length (Va.map ae) .any,.sl 2 sG.length Y .any]→E 11=.sl 1 SD.length (SD.map aJ) .any→E 12=x'→cZ 1 s4 s6 x' (i+1) ((kl.take (i+1)).map dP)→s4.le s6→K3 E s6:=by
         intro E s6 x' g39 g40 g41 g0 g1 g3 g6 g11 g12 gx gle;refine bq _ _ ?_;clear bq K3;refine jD (Ai @g41 (bd i (by omega))) ?_;refine⟨⟨i+1,x',aY,?_,g39,g40,rfl,g0,g1,g3,g6,g11,g12,gx,gle⟩,?_⟩
         ·intro j hj FY;by_cases e:j=i
          ·subst e;rw[hQe,M6,decide_eq_true F3];rfl
          ·exact F4 j hj (by omega)
         ·simp only[Vb,aB,↓reduceIte];omega
        clear bq;rcases hx with⟨rfl,fD,sF⟩|⟨tk,ek,rfl,pc,tJ⟩
        ·refine wE fun K hK=>?_;simp only[↓DN,Qa,Qb,Qc,Qd,Qe,Qf,Qg,Qh,reduceCtorEq,↓reduceIte,Na,Nb,Nc,Nk,Nf,Ng,Nh,Za,Zb,Zc,TT,f12,bU,List.replicate_succ];intro tk pc;refine hK _ _ (bX _ _ (.sl 1 1 [.v (.int .u64 qk)] (.own tk 0)) e39 RP Vb f0 f1 f3 f6 f11 rfl ?_ ?_)
         ·refine .inr ⟨tk,0,?_,by simp[AS.bA],aZ fY pc⟩;rw[eo,sF];subst fD;rfl
         ·exact AS.bn fY (aZ fY pc) 0
        ·refine wE fun K hK=>?_;simp only[↓DN,Qa,Qb,Qc,Qd,Qe,Qf,Qg,Qh,reduceCtorEq,↓reduceIte,Na,Nb,Nc,Nk,Nf,Ng,Nh,Za,Zb,Zc,TT,f12,pc,List.replicate_succ];refine⟨by omega,by omega,hK _ _ (bX _ _ (.sl 1 (i+1) ((kl.take i).map dP++[.v (.int .u64 qk)]) (.own tk (ek+1))) e39 RP Vb f0 f1 f3 f6 f11 rfl ?_ ?_)⟩
         ·exact .inr ⟨tk,ek+1,by rw[eo],by simp[AS.bA],tJ⟩
         ·exact AS.bn fY tJ (ek+1)
       ·have e1:((qs.length:Int) != (RT.length:Int))=true:=by
         rw[bne_iff_ne];omega
        refine jV @e1 hK ?_;clear hK K;refine jE ?_;refine jA ?_;refine a7 ?_;try simp only[aA,aq]
        exact fW (UJ (by rw[M6,decide_eq_false F3];rfl)) _ _ fY rfl rfl
     ·have bJ:¬((i:Nat):Int)<((sG.length:Nat):Int):=(by omega);refine jB (Ai @RP (Ai @Vb (decide_eq_false bJ))) ?_;refine wK fun K2 aU=>?_;refine jF ?_;refine aC ?_;simp only[aA,aq,if_true];refine hK _ _ ?_;clear hK aU K2 K;obtain rfl:i=sG.length:=(by omega);rw[if_neg (by rw[Ud fun j h=>F4 j h h];simp)] at hA;rw[List.take_of_length_le (by omega)] at hx;obtain⟨out,bB⟩:∃out,out=eJ t lf py kl fresh:=⟨_,rfl⟩;rw[←bB] at hA;have hwt:=fun s=>aj.gF (.cons (.refl _) (.cons (.refl _) (.cons (.refl _) (.cons hx.aE (.cons (.refl _) .nil))))) (by
       have:=LW hr lf hm py kl (by omega) s;rw[←bB] at this;unfold EP aW aG at this;rw[hXe,xdA] at this;exact this)
      have P9:out.length=t.length:=(by rw[bB];unfold eJ;simp only[List.length_set];exact gJ ..);have hu:2*lf<out.length:=(by omega);have cT:=dh hu;have cA:(0:Int)≤((2*lf:Nat):Int):=(by omega);have bJ:((2*lf:Nat):Int)<((out.length:Nat):Int):=(by omega);have heq:=fun s=>dc (Γ:=Γ) (nd out (2*lf)).parent Va s;generalize hZ:aK ah.cells out=Z at *
      obtain⟨N,hN⟩:∃N,N=nd out (2*lf):=⟨_,rfl⟩;rw[←hN] at cT heq hA;obtain⟨na,nb,nc,ll,nu⟩:=N;unfold ah.cells at cT;unfold al at cT heq;simp only at heq hA;refine jS (Ai @f0 (Ai @f1 (Ai @f6 (Ai @f12 @f3)))) fun K hK=>?_;refine ad (hwt _) ?_;rintro r s6 ⟨rfl,rfl⟩;refine jR hK ?_;clear hK K;refine wK fun K hK=>?_;refine bj T.mixed [8] (by kernel_rfl) ?_;intro K hK;refine jN (Ai @f1 (Ai @f6 (Ai (bZ lf (by omega)) (Ai @cA (Ai @bJ (Ai @au (Ai @hu @cT))))))) ?_;refine ad (heq _) ?_;rintro r s7 ⟨rfl,rfl⟩;by_cases hpe:ll=Va
      ·rw[if_pos hpe] at hA;rw[decide_eq_true hpe];refine jR hK ?_;clear hK K;refine jF ?_;refine ab ?_;refine hK _ _ ?_;clear hK K;refine jA ?_;refine jI ?_;rw[hA];refine⟨_,_,AV.aE.refl _,fY,?_,rfl⟩;rw[hZ]
      ·rw[if_neg hpe] at hA;rw[decide_eq_false hpe];refine jR hK ?_;clear hK K;refine jE ?_;refine jA ?_;refine a7 ?_;try simp only[aA,aq]
       exact fW hA _ _ fY rfl rfl
  ·have e1:((sG.length:Int) != (SD.length:Int))=true:=by
    rw[GO,bne_iff_ne];omega
   rw[if_pos (.inl hl)] at hA;refine jB @e1 ?_;refine jE ?_;refine jA ?_;refine a7 ?_;try simp only[aA,aq]
   exact fW hA _ _ (AS.le.refl _) rfl rfl
 ·have e0:(lj t leaf != 0)=true:=(by simp[he]);refine jB @e0 ?_;refine jE ?_;refine jA ?_;refine jI ?_;unfold pV at hA;rw[if_pos he] at hA;rw[hA];exact⟨_,_,AV.da sW (AV.aE.refl _),AS.le.refl _,rfl,rfl⟩
theorem tS(t:List ah)(ie:bf t)(skip:List Int)(J1:skip.length≤2^61)(n:Nat)(hn:n<t.length)(s:AS):
    aj prog Γ 26 [aW t,.v (.int .i64 n),aG skip .any] s (fun r s'=>r=aG (bC t n skip) .any∧s'=s):=by
  obtain⟨gV,nU⟩:=ie.span hn;have hT:bC t n skip=fG t skip (lv n) n:=(by unfold bC;rw[if_pos ⟨by omega,by omega,ie⟩,Int.toNat_natCast]);refine aj.settle (su t ie skip J1 (lv n) n rfl nU gV s) ?_;rintro r s1 ⟨hb,hle⟩;refine⟨s,_,(b8.aE hb.aE).trans (b8.le _ hle),?_,rfl⟩;rw[hT];simp only[Nat.zero_add,List.nil_append];rfl
def pU(t:List ah)(leaf:Nat)(keys:List Nat)(fresh:List Int):Nat→List ah×List UInt8
  |0=>(t,[])
  |i+1=>
    let j:=(az leaf (aI t)).length-1-i
    let up:=(az leaf (aI t)).getD j 0
    let p:=pU t leaf keys fresh i
    let b:ah:=⟨2,[],keys.getD j 0,p.2,CF t fresh up⟩
    (p.1.set up b,Sha.sum (qD b (wg t (bY (nodeAt leaf (aI t) j)))))
theorem EK(t:List ah)(leaf:Nat)(keys:List Nat)(fresh:List Int):∀i,(pU t leaf keys fresh i).1.length=t.length
  |0=>rfl
  |i+1=>by simp only[pU,List.length_set];exact EK t leaf keys fresh i
def vU(t:List ah)(leaf key:Nat)(keys:List Nat)(fresh:List Int):List ah:=
  let p:=pU t leaf keys fresh (az leaf (aI t)).length
  p.1.set (2*leaf) {nd p.1 (2*leaf) with key:=key,parent:=p.2}
def filled(n k:Nat)(c:UInt8):List UInt8:=List.replicate k c++List.replicate (n-k) 0
theorem ur(o:Nat)(l:List UInt8)(h0:l≠[])(hl:l.length≤2^40)(s:AS)(ho:s.aw o=some (l.map ae)):
  aj prog Γ 90 [.ig o 0 1 l.length l.length] s (fun r s'=>dS s l r s'):=by
 refine aa func90 rfl ntmps90 results90 (by simp) ?_;have hp:¬l.length=0:=fun e=>h0 (List.eq_nil_of_length_eq_zero e);refine jA ?_;refine wK fun K hK=>?_;refine jA ?_;refine jF ?_;refine ab ?_;refine hK _ _ ?_;clear hK K;refine wS fun K hK=>?_;simp only[↓DN,Qa,Qb,Qc,Qd,Qe,Qf,Qg,Qh,reduceCtorEq,↓reduceIte,Na,Nb,Nc,Nk,Nf,Ng,Nh,Za,Zb,Zc,TT,ho,hp,Nat.le_refl,List.take_length];refine⟨by omega,by omega,fun t ht=>hK _ _ ?_⟩;clear hK K;refine jI ?_;exact⟨_,_,AV.aE.refl _,AS.le.refl _,AS.bn (AS.le.refl s) ht 0,.inr ⟨t,0,ht,by simp[AS.bA,aB],rfl⟩⟩
theorem _root_.Go.AM.dS.behind{s s':AS}{l:List UInt8}{r:AV}{o:Nat}{cs:List AV}(h:dS (s.set o cs) l r s')(ho:s.aw o=none):dS s l r s':=
 ⟨AS.le.trans (AS.aF (AS.le.refl s) ho _) h.1,h.2⟩
theorem Ue:((64:Nat):Int)=64:=rfl
theorem oT(l:List UInt8)(hl:l.length=64)(x:UInt8)(s:AS):
  aj prog Γ 213 [.agg (l.map ae),ae x] s (fun r s'=>dS s (Mac.turn x l) r s'):=by
 refine aa func213 rfl ntmps213 results213 (by simp) ?_;have uA:(l.map ae).length=64:=(by rw[List.length_map,hl]);rw[show ae x=.v (.int .u8 (x.toNat:Int)) from rfl];refine jS @uA fun K hK=>?_;intro o ho;refine hK _ _ ?_;clear hK K;refine wK fun K hK=>?_;refine jA ?_;refine ag ?_;refine aD (fun E s2=>∃i:Nat,i≤64∧E 1=.v (.int .u8 (x.toNat:Int))∧E 2=.ptr o 0∧E 6=.v (.int .i64 i)∧s2=s.set o ((Mac.part x l i).map ae))
  (fun E _=>match E 6 with |.v (.int _ y)=>64-y.toNat|_=>0) ?_ ?_
 ·exact⟨0,by omega,by simp only[aB,bx,Nc,↓reduceIte,List.getD_cons_succ,List.getD_cons_zero],rfl,rfl,by rw[Mac.JS]⟩
 ·rintro E2 s2 ⟨i,hi,g1,g2,g6,rfl⟩ -
  by_cases aY:i<64
  ·have bJ:(i:Int)<64:=(by omega);have ns:(i:Int)<((64:Nat):Int):=(by omega);have fD:(0:Int)≤(i:Int):=(by omega);have fA:=Mac.MA x l i (by omega);have cz:=Mac.MB x l i (by omega);have hlen:((Mac.part x l i).map ae).length=64:=(by rw[List.length_map,Mac.Fl,hl]);have M7:=Mac.yV (l.getD i 0) x;generalize l.getD i 0=c at *
   rw[show ae c=.v (.int .u8 (c.toNat:Int)) from rfl] at fA;rw[show ae (c ^^^ x)=.v (.int .u8 ((c ^^^ x).toNat:Int)) from rfl] at cz;refine jB (Ai @g6 (decide_eq_true bJ)) ?_;refine wK fun K2 aU=>?_;refine jE ?_;refine ab ?_;refine aU _ _ ?_;clear aU K2;refine wK fun K3 bq=>?_;refine ag ?_;refine jB @g6 ?_;generalize Oa:(Mac.part x l i).map ae=X0 at *
   refine jU (Ai @g1 (Ai @g2 (Ai @g6 (Ai @fD (Ai @bJ (Ai @ns (Ai @hlen (Ai @fA (Ai @M7 (Ai @cz @Ue)))))))))) fun K hK=>?_;refine⟨by omega,?_⟩;refine hK _ _ ?_;clear hK K;simp only[aA,aq,if_true,if_false];refine bq _ _ ?_;clear bq K3;refine jD (Ai @g6 (cS i (by omega))) ?_;refine⟨⟨i+1,by omega,g1,g2,rfl,rfl⟩,?_⟩;simp only[g6,aB,↓reduceIte];omega
  ·have bJ:¬(i:Int)<64:=(by omega);obtain rfl:i=64:=(by omega);refine jB (Ai @g6 (decide_eq_false bJ)) ?_;refine wK fun K2 aU=>?_;refine jF ?_;refine aC ?_;simp only[aA,aq,if_true];clear aU K2;refine hK _ _ ?_;clear hK K;rw[Mac.Mz x l 64 (by omega)];have kq:(Mac.turn x l).length=64:=(by rw[Mac.nz,hl]);refine jS (Ai @g2 @Int.le_refl) fun K hK=>?_;have hc:=ur (Γ:=Γ) o (Mac.turn x l) (by rw[←List.length_pos_iff];omega) (by omega) (s.set o ((Mac.turn x l).map ae)) (AS.af _ _ _);rw[kq] at hc;refine ad hc ?_;intro r s3 bB;refine jR hK ?_;clear hK K;refine jI ?_;exact⟨_,_,AV.aE.refl _,AS.le.refl _,bB.behind ho⟩
theorem _root_.Go.AM.dS.under{s s1 s2:AS}{l:List UInt8}{r:AV}(h:dS s1 l r s2)(hle:s.le s1):dS s l r s2:=by
 refine⟨AS.le.trans hle h.1,?_⟩;rcases h.2 with h|⟨t,e,h1,h2,h3⟩
 ·exact .inl h
 ·refine .inr ⟨t,e,?_,h2,h3⟩;cases hs:s.own t with
  |none=>rfl
  |some g=>rw[hle.own t g hs] at h1;cases h1
theorem xdD:bo prog 232=some (List.replicate 64 (.v (.int .u8 0))):=by kernel_rfl
theorem ov(dU:Γ 0=eA Sha.H0)(hG:Γ 1=Sha.K.map wV)(key:List UInt8)(ls:List (List UInt8))(sp:Sp)(hk:key.length≤2^38)(hn:ls.length≤2^38)(hl:ls.flatten.length≤2^38)(s:AS):
  aj prog Γ 180 [al key .any,.sl 1 ls.length (gu ls) sp] s (fun r s'=>dS s (Mac.tag key ls.flatten) r s'):=by
 refine aa func180 rfl ntmps180 results180 (by simp) ?_;refine jA ?_;refine wK fun K hK=>?_;have tq:∀(E1:Env)(s1:AS)(sp1:Sp),E1 0=.sl 1 (Mac.key key).length ((Mac.key key).map ae) sp1→E1 1=.sl 1 ls.length (gu ls) sp→s.le s1→K E1 s1:=by
  intro E1 s1 sp1 e0 e1 hle;refine hK _ _ ?_;clear hK K;have uB:=Mac.My key;generalize Tk:Mac.key key=kk at *
  refine jS @xdD fun K hK=>?_;intro o ho;refine hK _ _ ?_;clear hK K;have h0:(0:Int)≤((64:Nat):Int):=(by decide);have eo:(kk.map ae).take kk.length=kk.map ae:=List.take_of_length_le (by simp);have Ca:min kk.length 64=kk.length:=Nat.min_eq_left uB;have Js:bp (List.replicate 64 (.v (.int .u8 0))) 0 (kk.map ae)=(Mac.fill kk).map ae:=Mac.Hm kk uB;refine wS fun K hK=>?_;simp only[↓DN,Qa,Qb,Qc,Qd,Qe,Qf,Qg,Qh,reduceCtorEq,↓reduceIte,Na,Nb,Nc,Nk,Nf,Ng,Nh,Za,Zb,Zc,TT,e0,h0,Int.le_refl,ite_self,Ca,eo,Js,List.length_replicate,uB];refine hK _ _ ?_;clear hK K;have oZ:=Mac.qd kk uB;have xab:((Mac.fill kk).map ae).length=64:=(by rw[List.length_map,oZ]);have htf:((Mac.fill kk).map ae).take 64=(Mac.fill kk).map ae:=List.take_of_length_le (by omega);have xac:∀x:AV,List.replicate 2 x=[x,x]:=fun _=>rfl;generalize hb:Mac.fill kk=bl at *
  have N9:=oT (Γ:=Γ) bl oZ 54;have PC:=oT (Γ:=Γ) bl oZ 92;have tl1:(Mac.turn 54 bl).length=64:=(by rw[Mac.nz,oZ]);have tl2:(Mac.turn 92 bl).length=64:=(by rw[Mac.nz,oZ]);rw[show ae 54=.v (.int .u8 54) from rfl] at N9;rw[show ae 92=.v (.int .u8 92) from rfl] at PC;refine jS (Ai @htf (Ai @xab @Nat.le_refl)) fun K hK=>?_;refine ad (N9 _) ?_;intro r s2 bB;have eW:s.le s2:=(AS.le.trans hle (AS.aF (AS.le.refl s1) ho _)).trans bB.1;have qQ:s2.aw o=some (bl.map ae):=bB.1.aw _ _ (AS.af _ _ _);have H4:=bB.aE;obtain⟨t1,g1,rfl⟩:=cv bB (by rw[←List.length_pos_iff,tl1];decide);clear bB;refine jN @e1 ?_;refine ad (ly ls sp (by omega) (by omega) _) ?_;intro r s3 bB;have gH:s.le s3:=AS.le.trans eW bB.1;have Au:s3.aw o=some (bl.map ae):=bB.1.aw _ _ qQ;have hw2:=bB.aE;have gV:=lD (Γ:=Γ) dU hG [Mac.turn 54 bl,ls.flatten] .new (by simp) (by simp only[List.flatten_cons,List.flatten_nil,List.append_nil,List.length_append,tl1];omega) s3;rw[show[Mac.turn 54 bl,ls.flatten].flatten=Mac.turn 54 bl++ls.flatten from by simp] at gV;have rm:Sha.sum (Mac.turn 54 bl++ls.flatten)=Mac.inner key ls.flatten:=(by rw[Mac.inner,Tk,hb]);have FC:Sha.sum (Mac.turn 92 bl++Mac.inner key ls.flatten)=Mac.tag key ls.flatten:=(by rw[Mac.tag,Tk,hb]);rw[rm] at gV;have xad:∀(E2:Env)(s4:AS)(r:AV),E2 5=.ptr o 0→E2 6=r→dS s3 (Mac.inner key ls.flatten) r s4→K E2 s4:=by
   intro E2 s4 r g5 g6 bB;refine hK _ _ ?_;clear hK K;have fM:s.le s4:=AS.le.trans gH bB.1;have Db:s4.aw o=some (bl.map ae):=bB.1.aw _ _ Au;have Q9:=bB.aE;have Jn:=Mac.BD key ls.flatten;obtain⟨t3,g3,rfl⟩:=cv bB (by rw[←List.length_pos_iff,Jn];decide);clear bB;refine jS (Ai @g5 (Ai @Db (Ai @htf (Ai @xab @Nat.le_refl)))) fun K hK=>?_;refine ad (PC _) ?_;intro r s5 bB;have hw4:=bB.aE;have fY:s.le s5:=AS.le.trans fM bB.1;obtain⟨t4,g4,rfl⟩:=cv bB (by rw[←List.length_pos_iff,tl2];decide);clear bB;have nU:=lD (Γ:=Γ) dU hG [Mac.turn 92 bl,Mac.inner key ls.flatten] .new (by simp) (by simp only[List.flatten_cons,List.flatten_nil,List.append_nil,List.length_append,tl2,Jn];omega) s5;rw[show[Mac.turn 92 bl,Mac.inner key ls.flatten].flatten=Mac.turn 92 bl++Mac.inner key ls.flatten from by simp,FC] at nU;refine jN (Ai @g6 @xac) ?_;refine ad (aj.gF (gE.aE.cons (AV.tm (gE.aE.cons hw4 (gE.aE.cons Q9 gE.aE.nil))) gE.aE.nil) nU) ?_;intro r s6 bB;refine jR hK ?_;clear hK K;refine jI ?_;exact⟨_,_,AV.aE.refl _,AS.le.refl _,bB.under fY⟩
  rcases bB.2 with⟨_,rfl⟩|⟨t2,g2,_,_,rfl⟩;all_goals
   refine jN @xac ?_;refine ad (aj.gF (gE.aE.cons (AV.tm (gE.aE.cons H4 (gE.aE.cons hw2 gE.aE.nil))) gE.aE.nil) gV) ?_;intro r s4 bB;refine jM ?_;refine xad _ _ r ?_ ?_ bB
   ·simp only[aB,Nc,↓reduceIte]
   ·simp only[aB,↓reduceIte]
 by_cases BP:64<key.length
 ·have nr:Mac.key key=Sha.sum key:=(by rw[Mac.key,if_pos BP]);rw[nr] at tq;refine jB (decide_eq_true (show(64:Int)<(key.length:Int) by omega)) ?_;refine jE ?_;refine wE fun K hK=>?_;simp only[↓DN,Qa,Qb,Qc,Qd,Qe,Qf,Qg,Qh,reduceCtorEq,↓reduceIte,Na,Nb,Nc,Nk,Nf,Ng,Nh,Za,Zb,Zc,TT,List.replicate_one];have mu:=lD (Γ:=Γ) dU hG [key] .new (by simp) (by simp;omega) s;rw[show[key].flatten=key from by simp] at mu;refine ad mu ?_;intro r s1 bB;obtain⟨t,g,rfl⟩:=cv bB (by rw[←List.length_pos_iff,Sha.du];decide);refine jR hK ?_;clear hK K;simp only[aA];refine tq _ _ (.own t g) ?_ ?_ bB.1
  ·simp only[aB,↓reduceIte]
  ·simp only[aB,bx,Nc,↓reduceIte,List.getD_cons_succ,List.getD_cons_zero]
 ·have nr:Mac.key key=key:=(by rw[Mac.key,if_neg BP]);rw[nr] at tq;refine jB (decide_eq_false (show ¬(64:Int)<(key.length:Int) by omega)) ?_;refine jF ?_;refine ab ?_;simp only[aA];refine tq _ _ .any ?_ ?_ (AS.le.refl s)
  ·simp only[aB,bx,Nc,↓reduceIte,List.getD_cons_succ,List.getD_cons_zero,al]
  ·simp only[aB,bx,Nc,↓reduceIte,List.getD_cons_succ,List.getD_cons_zero]
theorem M8(k:List UInt8)(i:Nat)(h:i<k.length)(hk:k.length≤64):(Mac.fill k)[i]'(by rw[Mac.qd k hk];omega)=k[i]:=by
 simp only[Mac.fill];rw[List.getElem_append_left h]
theorem M9(k:List UInt8)(i:Nat)(h:¬i<k.length)(hi:i<64)(hk:k.length≤64):(Mac.fill k)[i]'(by rw[Mac.qd k hk];omega)=0:=by
 simp only[Mac.fill];rw[List.getElem_append_right (by omega),List.getElem_replicate]
theorem J7(x:UInt8)(l:List UInt8)(i:Nat)(h:i<l.length):Mac.turn x (l.take (i+1))=Mac.turn x (l.take i)++[l[i] ^^^ x]:=by
 rw[List.take_succ_eq_append_getElem h];simp only[Mac.turn,List.map_append,List.map_cons,List.map_nil]
theorem oU(key:List UInt8)(hk:key.length≤64)(x:UInt8)(s:AS):
  aj prog Γ 203 [.v (.string ⟨key.toArray⟩),.v (.int .u8 (x.toNat:Int))] s (fun r s'=>r=.v (.string ⟨(Mac.turn x (Mac.fill key)).toArray⟩)∧s'=s):=by
 refine aa func203 rfl ntmps203 results203 (by simp) ?_;have oZ:=Mac.qd key hk;refine jA ?_;refine jA ?_;refine wK fun K hK=>?_;refine jA ?_;refine ag ?_;refine aD (fun E s1=>∃i:Nat,i≤64∧E 0=.v (.string ⟨key.toArray⟩)∧E 1=.v (.int .u8 (x.toNat:Int))∧E 6=.v (.int .i64 i)∧dS s (Mac.turn x ((Mac.fill key).take i)) (E 5) s1)
  (fun E _=>match E 6 with |.v (.int _ i)=>64-i.toNat|_=>0) ?_ ?_
 ·exact⟨0,Nat.zero_le _,by simp only[aB,bx,Nc,↓reduceIte,List.getD_cons_succ,List.getD_cons_zero],by simp only[aB,bx,Nc,↓reduceIte,List.getD_cons_succ,List.getD_cons_zero],rfl,by simp only[aB,Nc,↓reduceIte];exact dS.nil s⟩
 ·rintro E1 s1 ⟨i,hi,e0,e1,e6,bB⟩ -
  refine wK fun K2 aU=>?_;by_cases aY:i<64
  ·have bJ:(i:Int)<64:=(by omega);have cA:(0:Int)≤(i:Int):=(by omega);have hts:=J7 x (Mac.fill key) i (by omega);have QX:=M8 key i;have ON:=M9 key i;refine jB (Ai @e6 (decide_eq_true bJ)) ?_;refine jE ?_;refine ab ?_;refine aU _ _ ?_;clear aU K2;refine wK fun K3 bq=>?_;refine ag ?_;refine jA ?_;refine wK fun K4 dM=>?_;have tq:∀(E2:Env)(c:UInt8),(Mac.fill key)[i]'(by omega)=c→E2 0=.v (.string ⟨key.toArray⟩)→E2 1=.v (.int .u8 (x.toNat:Int))→E2 6=.v (.int .i64 i)→E2 5=E1 5→E2 7=.v (.int .u8 (c.toNat:Int))→K4 E2 s1:=by
    intro E2 c hc f0 f1 f6 f5 f7;refine dM _ _ ?_;clear dM K4;rw[hc] at hts;have M7:=Mac.yV c x;generalize uk:E1 5=r6 at bB f5;refine wE fun K hK=>?_;simp only[↓DN,Qa,Qb,Qc,Qd,Qe,Qf,Qg,Qh,reduceCtorEq,↓reduceIte,Na,Nb,Nc,Nk,Nf,Ng,Nh,Za,Zb,Zc,TT,f0,f1,f5,f6,f7,M7,List.replicate_one];refine dk (ds:=[c ^^^ x]) bB rfl rfl T.c5 T.b5 (by simp[Mac.turn];omega) ?_;intro r2 s2 h2;rw[←hts] at h2;refine hK _ _ ?_;clear hK K;simp only[aA,aq,if_true,if_false];refine bq _ _ ?_;clear bq K3;refine jD (Ai @f6 (cS i (by omega))) ?_;refine⟨⟨i+1,by omega,f0,f1,rfl,by simpa only[aB,Nc,↓reduceIte] using h2⟩,?_⟩;simp only[e6,aB,↓reduceIte];omega
   by_cases hik:i<key.length
   ·have fA:=Qt key i hik;have hg:=QX hik hk;generalize key[i]=c at *
    refine jB (Ai @e0 (Ai @e6 (Ai @dO (decide_eq_true (show(i:Int)<(key.length:Int) by omega))))) ?_;refine jE ?_;refine jU (Ai @e0 (Ai @e6 (Ai @cA @fA))) fun K hK=>?_;refine hK _ _ ?_;clear hK;simp only[aA];refine tq _ c hg ?_ ?_ ?_ ?_ ?_
    ·simp only[aB,e0,Nc,↓reduceIte]
    ·simp only[aB,e1,Nc,↓reduceIte]
    ·simp only[aB,e6,Nc,↓reduceIte]
    ·simp only[aB,Nc,↓reduceIte]
    ·simp only[aB,↓reduceIte];rfl
   ·have hg:=ON hik aY hk;refine jB (Ai @e0 (Ai @e6 (Ai @dO (decide_eq_false (show ¬(i:Int)<(key.length:Int) by omega))))) ?_;refine jF ?_;refine ab ?_;simp only[aA];refine tq _ 0 hg ?_ ?_ ?_ ?_ ?_
    ·simp only[aB,e0,Nc,↓reduceIte]
    ·simp only[aB,e1,Nc,↓reduceIte]
    ·simp only[aB,e6,Nc,↓reduceIte]
    ·simp only[aB,Nc,↓reduceIte]
    ·simp only[aB,Nc,↓reduceIte];rfl
  ·have bJ:¬(i:Int)<64:=(by omega);obtain rfl:i=64:=(by omega);refine jB (Ai @e6 (decide_eq_false bJ)) ?_;refine jF ?_;refine aC ?_;simp only[aA,aq,if_true];clear aU K2;refine hK _ _ ?_;clear hK K;rw[List.take_of_length_le (by omega)] at bB;have kq:(Mac.turn x (Mac.fill key)).length=64:=(by rw[Mac.nz,oZ]);have hle:=bB.1;obtain⟨t,g,e5⟩:=cv bB (by rw[←List.length_pos_iff,kq];decide);refine jB @e5 ?_;refine jI ?_;exact⟨_,_,AV.aE.refl _,hle,rfl,rfl⟩
theorem Dl(key l:List UInt8)(hk:key.length≤2^38)(hl:l.length≤2^38)(s:AS):
  aj prog Γ 166 [.v (.string ⟨key.toArray⟩),.v (.string ⟨l.toArray⟩)] s (fun r s'=>r=.v (.string ⟨(Mac.tag key l).toArray⟩)∧s'=s):=by
 refine aa func166 rfl ntmps166 results166 (by simp) ?_;refine jA ?_;refine wK fun K hK=>?_;have tq:∀(E1:Env),E1 0=.v (.string ⟨(Mac.key key).toArray⟩)→E1 1=.v (.string ⟨l.toArray⟩)→K E1 s:=by
  intro E1 e0 e1;refine hK _ _ ?_;clear hK K;have uB:=Mac.My key;have rm:Sha.sum (Mac.turn 54 (Mac.fill (Mac.key key))++l)=Mac.inner key l:=rfl;have FC:Sha.sum (Mac.turn 92 (Mac.fill (Mac.key key))++Mac.inner key l)=Mac.tag key l:=rfl;have oZ:=Mac.qd _ uB;have Jn:=Mac.BD key l;have tl1:(Mac.turn 54 (Mac.fill (Mac.key key))).length=64:=(by rw[Mac.nz,oZ]);have tl2:(Mac.turn 92 (Mac.fill (Mac.key key))).length=64:=(by rw[Mac.nz,oZ]);generalize Tk:Mac.key key=kk at *
  refine jS @e0 fun K hK=>?_;refine ad (oU kk uB 92 s) ?_;rintro r s1 ⟨rfl,rfl⟩;refine jN @e0 ?_;refine ad (oU kk uB 54 s1) ?_;rintro r s2 ⟨rfl,rfl⟩;refine jN (Ai @e1 (eF (show(Mac.turn 54 (Mac.fill kk)).length+l.length<2^62 by omega))) ?_;refine ad (ot (Mac.turn 54 (Mac.fill kk)++l) (by rw[List.length_append,tl1];omega) s2) ?_;rintro r s3 ⟨rfl,rfl⟩;rw[rm];refine jN (eF (show(Mac.turn 92 (Mac.fill kk)).length+(Mac.inner key l).length<2^62 by omega)) ?_;refine ad (ot (Mac.turn 92 (Mac.fill kk)++Mac.inner key l) (by rw[List.length_append,tl2,Jn];decide) s3) ?_;rintro r s4 ⟨rfl,rfl⟩;rw[FC];refine jR hK ?_;clear hK K;exact jJ
 by_cases BP:64<key.length
 ·have nr:Mac.key key=Sha.sum key:=(by rw[Mac.key,if_pos BP]);rw[nr] at tq;refine jB (decide_eq_true (show(64:Int)<(key.length:Int) by omega)) ?_;refine jE ?_;refine jL (ot key (by omega) s) ?_;rintro s1 rfl;simp only[aA];refine tq _ ?_ ?_
  ·simp only[aB,↓reduceIte]
  ·simp only[aB,bx,Nc,↓reduceIte,List.getD_cons_succ,List.getD_cons_zero]
 ·have nr:Mac.key key=key:=(by rw[Mac.key,if_neg BP]);rw[nr] at tq;refine jB (decide_eq_false (show ¬(64:Int)<(key.length:Int) by omega)) ?_;refine jF ?_;refine ab ?_;simp only[aA];refine tq _ ?_ ?_
  ·simp only[aB,bx,Nc,↓reduceIte,List.getD_cons_succ,List.getD_cons_zero]
  ·simp only[aB,bx,Nc,↓reduceIte,List.getD_cons_succ,List.getD_cons_zero]
def nothing:List UInt8:=[119,104,97,116,32,100,111,32,121,97,32,119,97,110,116,32,102,111,114,32,110,111,116,104,105,110,103,63]
theorem HA(a b:List UInt8):gu [a,b]=[al a .any,al b .any]:=rfl
theorem FD(c x y:UInt8):c ||| (x ^^^ y)=0↔c=0∧x=y:=by
 rw[UInt8.or_eq_zero_iff,UInt8.xor_eq_zero_iff]
theorem Qy(a b:UInt8):F6 .u8 (a.toNat:Int) (b.toNat:Int)=(((a ||| b).toNat:Nat):Int):=by
 rw[A2 (k:=.u8) rfl a.toNat b.toNat (by simpa[IntKind.bits] using a.toNat_lt) (by simpa[IntKind.bits] using b.toNat_lt),UInt8.toNat_or]
theorem J8(c:UInt8):(((c.toNat:Nat):Int)==0)=decide (c=0):=by
 rw[Bool.eq_iff_iff,beq_iff_eq,decide_eq_true_iff,←UInt8.toNat_inj];simp
theorem take_same(a b:List UInt8)(i:Nat)(ha:i<a.length)(hb:i<b.length):a.take (i+1)=b.take (i+1)↔a.take i=b.take i∧a.getD i 0=b.getD i 0:=by
 rw[List.take_succ_eq_append_getElem ha,List.take_succ_eq_append_getElem hb];have e1:(a.take i).length=(b.take i).length:=(by simp;omega);constructor
 ·intro h;have:=List.append_inj h e1;refine⟨this.1,?_⟩;simp only[List.getD_eq_getElem?_getD,List.getElem?_eq_getElem ha,List.getElem?_eq_getElem hb,Option.getD_some];simpa using this.2
 ·rintro⟨h1,h2⟩;simp only[List.getD_eq_getElem?_getD,List.getElem?_eq_getElem ha,List.getElem?_eq_getElem hb,Option.getD_some] at h2;rw[h1,h2]
theorem HB(a b:List UInt8)(ha:a.length≤2^40)(s:AS):
  aj prog Γ 212 [al a .any,al b .any] s (fun r s'=>r=.v (.bool (decide (a=b)))∧s'=s):=by
 refine aa func212 rfl ntmps212 results212 (by simp) ?_;refine jA ?_;refine wK fun K hK=>?_;by_cases cY:a.length=b.length
 ·refine jB (show((a.length:Int) != (b.length:Int))=false from by rw[cY];simp) ?_;refine jF ?_;refine ab ?_;refine hK _ _ ?_;clear hK K;refine jA ?_;refine wK fun K hK=>?_;refine jA ?_;refine ag ?_;refine aD (fun E s2=>∃(i:Nat)(c:UInt8),i≤a.length∧E 0=.sl 1 a.length (a.map ae) .any∧E 1=.sl 1 b.length (b.map ae) .any∧E 5=.v (.int .u8 (c.toNat:Int))∧E 13=.v (.int .i64 a.length)∧E 14=.v (.int .i64 i)∧(c=0↔a.take i=b.take i)∧s2=s)
   (fun E _=>match E 14 with |.v (.int _ y)=>a.length-y.toNat|_=>0) ?_ ?_
  ·exact⟨0,0,by omega,by simp only[aB,bx,Nc,↓reduceIte,List.getD_cons_succ,List.getD_cons_zero,al],by simp only[aB,bx,Nc,↓reduceIte,List.getD_cons_succ,List.getD_cons_zero,al],rfl,rfl,rfl,by simp,rfl⟩
  ·rintro E2 s2 ⟨i,c,hi,g0,g1,g5,g13,g14,hc,rfl⟩ -
   by_cases aY:i<a.length
   ·have bJ:(i:Int)<(a.length:Int):=(by omega);have ns:(i:Int)<(b.length:Int):=(by omega);have fD:(0:Int)≤(i:Int):=(by omega);have Vw:=MK a i aY;have hgb:=MK b i (by omega);have hts:=take_same a b i aY (by omega);generalize a.getD i 0=x at *
    generalize b.getD i 0=y at *
    have M7:=Mac.yV x y;have hor:=Qy c (x ^^^ y);have hz:=FD c x y;refine jB (Ai @g13 (Ai @g14 (decide_eq_true bJ))) ?_;refine wK fun K2 aU=>?_;refine jE ?_;refine ab ?_;refine aU _ _ ?_;clear aU K2;refine wK fun K3 bq=>?_;refine ag ?_;refine jB @g14 ?_;refine fw T.mixed [] (by kernel_rfl) ?_;intro K hK;refine jV (Ai @g0 (Ai @g1 (Ai @g5 (Ai @fD (Ai @bJ (Ai @ns (Ai @Vw (Ai @hgb (Ai @M7 @hor))))))))) hK ?_;clear hK K;simp only[aA,aq,if_true,if_false];refine bq _ _ ?_;clear bq K3;refine jD (Ai @g14 (cS i (by omega))) ?_;refine⟨⟨i+1,c ||| (x ^^^ y),by omega,g0,g1,rfl,g13,rfl,?_,rfl⟩,?_⟩
    ·rw[hz,hc,hts]
    ·simp only[g14,aB,↓reduceIte];omega
   ·have bJ:¬(i:Int)<(a.length:Int):=(by omega);obtain rfl:i=a.length:=(by omega);refine jB (Ai @g13 (Ai @g14 (decide_eq_false bJ))) ?_;refine wK fun K2 aU=>?_;refine jF ?_;refine aC ?_;simp only[aA,aq,if_true];clear aU K2;refine hK _ _ ?_;clear hK K;rw[List.take_length,cY,List.take_length] at hc;have hr:(((c.toNat:Nat):Int)==0)=decide (a=b):=by
     rw[J8];exact decide_eq_decide.2 hc
    refine jB (Ai @g5 @hr) ?_;exact jJ
 ·refine jB (show((a.length:Int) != (b.length:Int))=true from by rw[bne_iff_ne];omega) ?_;refine jE ?_;refine jA ?_;refine jI ?_;exact⟨.v (.bool false),_,AV.aE.refl _,AS.le.refl _,by rw[decide_eq_false (fun e=>cY (by rw[e]))],rfl⟩
theorem AF(dU:Γ 0=eA Sha.H0)(hG:Γ 1=Sha.K.map wV)(Qz l:List UInt8)(hk:Qz.length≤2^38)(hl:l.length≤2^38)(s:AS):
  aj prog Γ 185 [al Qz .any,al l .any] s (fun r s'=>dS s (Mac.tag Qz l) r s'):=by
 refine aa func185 rfl ntmps185 results185 (by simp) ?_;refine jA ?_;refine wS fun K hK=>?_;simp only[↓DN,Qa,Qb,Qc,Qd,Qe,Qf,Qg,Qh,reduceCtorEq,↓reduceIte,Na,Nb,Nc,Nk,Nf,Ng,Nh,Za,Zb,Zc,TT,List.replicate_one];have hm:=ov (Γ:=Γ) dU hG Qz [l] .new hk (by simp) (by simpa using hl) s;rw[show[l].flatten=l from by simp] at hm;refine ad hm ?_;intro r s1 bB;refine jR hK ?_;clear hK K;refine jI ?_;exact⟨_,_,AV.aE.refl _,AS.le.refl _,bB⟩
theorem _root_.Go.AM.dS.later{s s1 s2:AS}{l:List UInt8}{r:AV}(h:dS s l r s1)(hle:s1.le s2):dS s l r s2:=by
 refine⟨AS.le.trans h.1 hle,?_⟩;rcases h.2 with h|⟨t,e,h1,h2,h3⟩
 ·exact .inl h
 ·exact .inr ⟨t,e,h1,hle.own t e h2,h3⟩
def BQ(l:List UInt8)(r:AV):Prop:=(l=[]∧r=.v (.slice none 0 0))∨∃t e,r=.sl 1 l.length (l.map ae) (.own t e)
theorem BQ.aE{l:List UInt8}{r:AV}(h:BQ l r):r.aE (al l .any):=by
 rcases h with⟨rfl,rfl⟩|⟨t,e,rfl⟩
 ·exact AV.aM
 ·exact AV.bN
theorem BQ.of{s s':AS}{l:List UInt8}{r:AV}(h:dS s l r s'):BQ l r:=by
 rcases h.2 with⟨h1,h2⟩|⟨t,e,_,_,h3⟩
 ·exact .inl ⟨h1,h2⟩
 ·exact .inr ⟨t,e,h3⟩
theorem QA(c:UInt8):dQ .u8 (c.toNat:Int) 1=(((c+1).toNat:Nat):Int):=by
 rw[show(1:Int)=((1:Nat):Int) from rfl,uG (k:=.u8) rfl];simp[IntKind.bits,UInt8.toNat_add]
theorem Dm(dU:Γ 0=eA Sha.H0)(hG:Γ 1=Sha.K.map wV)(aO info:List UInt8)(hk:aO.length≤2^37)(hi:info.length≤2^37)(n:Int)(s:AS):
  aj prog Γ 146 [al aO .any,al info .any,.v (.int .i64 n)] s (fun r s'=>r=.eu [al (Kdf.get aO info n) .any,.v (.bool (Kdf.ok n))]∧s'=s):=by
 refine aa func146 rfl ntmps146 results146 (by simp) ?_;refine jA ?_;refine wK fun K hK=>?_;by_cases h0:n<0
 ·have iZ:Kdf.ok n=false:=(by simp[Kdf.ok];omega);refine jB (decide_eq_true h0) ?_;refine jE ?_;refine jA ?_;refine jI ?_;exact⟨_,_,AV.da AV.aM (AV.aE.refl _),AS.le.refl _,by rw[Kdf.get,iZ];rfl,rfl⟩
 by_cases h1:8160<n
 ·have iZ:Kdf.ok n=false:=(by simp[Kdf.ok];omega);refine jB (Ai (decide_eq_false h0) (decide_eq_true h1)) ?_;refine jE ?_;refine jA ?_;refine jI ?_;exact⟨_,_,AV.da AV.aM (AV.aE.refl _),AS.le.refl _,by rw[Kdf.get,iZ];rfl,rfl⟩
 ·have iZ:Kdf.ok n=true:=(by simp[Kdf.ok];omega);obtain⟨m,rfl⟩:∃m:Nat,n=(m:Int):=⟨n.toNat,by omega⟩;have hm:m≤8160:=(by omega);have fA:Kdf.get aO info (m:Int)=Kdf.expand aO info m:=(by rw[Kdf.get,iZ];rfl);rw[iZ,fA];refine jB (Ai (decide_eq_false h0) (decide_eq_false h1)) ?_;refine jF ?_;refine ab ?_;refine hK _ _ ?_;clear hK K;refine jA ?_;refine wK fun K hK=>?_;refine jA ?_;refine ag ?_;have hmr:32*Kdf.rounds m≤8191:=(by unfold Kdf.rounds;omega);refine aD (fun E s1=>∃i:Nat,i≤Kdf.rounds m∧E 0=.sl 1 aO.length (aO.map ae) .any∧E 1=.sl 1 info.length (info.map ae) .any∧E 2=.v (.int .i64 m)∧E 10=.v (.int .u8 ((UInt8.ofNat (i+1)).toNat:Int))∧BQ (Kdf.nE aO info i) (E 9)∧dS s (Kdf.row aO info i) (E 8) s1)
   (fun E _=>match E 8 with |.sl _ n _ _=>m-n|_=>m+1) ?_ ?_
  ·refine⟨0,Nat.zero_le _,by simp only[aB,bx,Nc,↓reduceIte,List.getD_cons_succ,List.getD_cons_zero,al],by simp only[aB,bx,Nc,↓reduceIte,List.getD_cons_succ,List.getD_cons_zero,al],by simp only[aB,bx,Nc,↓reduceIte,List.getD_cons_succ,List.getD_cons_zero],rfl,?_,?_⟩
   ·simp only[aB,Nc,↓reduceIte];exact .inl ⟨rfl,rfl⟩
   ·simp only[aB,Nc,↓reduceIte];exact dS.nil s
  ·rintro E2 s2 ⟨i,hir,g0,g1,g2,g10,Nd,bB⟩ -
   refine wK fun K2 aU=>?_;have uS:=Kdf.cj aO info i;have Uf:=Kdf.due m i;have ZE:m-32*i≤(match E2 8 with |.sl _ n _ _=>m-n|_=>m+1):=by
    rcases bB.2 with⟨FX,e8⟩|⟨t,e,_,_,e8⟩
    ·rw[e8];simp only;omega
    ·rw[e8];simp only[uS];exact Nat.le_refl _
   generalize Sc:E2 8=r8 at bB;generalize hr9:E2 9=r9 at Nd;by_cases aY:i<Kdf.rounds m
   ·have bJ:32*i<m:=Uf.2 aY;have tq:∀E3:Env,E3 0=.sl 1 aO.length (aO.map ae) .any→E3 1=.sl 1 info.length (info.map ae) .any→E3 2=.v (.int .i64 m)→E3 10=.v (.int .u8 ((UInt8.ofNat (i+1)).toNat:Int))→E3 8=r8→E3 9=r9→K2 E3 s2:=by
     intro E3 f0 f1 f2 f10 f8 f9;refine aU _ _ ?_;clear aU K2;refine wK fun K3 bq=>?_;refine ag ?_;have Hs:=Kdf.uo aO info i;have P0:Kdf.nE aO info (i+1)=Mac.tag aO (Kdf.nE aO info i++info++[UInt8.ofNat (i+1)]):=rfl;have wL:Kdf.row aO info (i+1)=Kdf.row aO info i++Kdf.nE aO info (i+1):=rfl;have xdE:(Kdf.nE aO info i).length≤32:=by
      cases i with
      |zero=>simp[Kdf.nE]
      |succ j=>rw[Kdf.uo];exact Nat.le_refl _
     have xae:∀x:AV,List.replicate 3 x=[x,x,x]:=fun _=>rfl;have hw9:=Nd.aE;have FW:=QA (UInt8.ofNat (i+1));have zE:UInt8.ofNat (i+1)+1=UInt8.ofNat (i+1+1):=by
      rw[←UInt8.toNat_inj,UInt8.toNat_add,UInt8.toNat_ofNat',UInt8.toNat_ofNat'];simp
     rw[zE] at FW;have sP:=ov (Γ:=Γ) dU hG aO [Kdf.nE aO info i,info,[UInt8.ofNat (i+1)]] .new (by omega) (by simp) (by simp only[List.flatten_cons,List.flatten_nil,List.append_nil,List.length_append,List.length_cons,List.length_nil];omega) s2;rw[show[Kdf.nE aO info i,info,[UInt8.ofNat (i+1)]].flatten=Kdf.nE aO info i++info++[UInt8.ofNat (i+1)] from by simp,←P0] at sP;have Ni:∀r9':AV,r9'.aE (al (Kdf.nE aO info i) .any)→aj prog Γ 180 [.sl 1 aO.length (aO.map ae) .any,.sl 1 3 [r9',.sl 1 info.length (info.map ae) .any,.sl 1 1 [.v (.int .u8 ((UInt8.ofNat (i+1)).toNat:Int))] .new] .new] s2 (fun r s'=>dS s2 (Kdf.nE aO info (i+1)) r s'):=fun r9' hw=>
      aj.gF (gE.aE.cons (AV.aE.refl _) (gE.aE.cons (AV.tm (gE.aE.cons hw (gE.aE.cons (AV.aE.refl _) (gE.aE.cons (AV.bN (sp:=.new)) gE.aE.nil)))) gE.aE.nil)) sP
     have Ni:=Ni r9 hw9;rcases Nd with⟨_,rfl⟩|⟨t9,e9,rfl⟩;all_goals
      refine wS fun K hK=>?_;simp only[↓DN,Qa,Qb,Qc,Qd,Qe,Qf,Qg,Qh,reduceCtorEq,↓reduceIte,Na,Nb,Nc,Nk,Nf,Ng,Nh,Za,Zb,Zc,TT,f0,f1,f10,f9,List.replicate_one,xae];refine ad Ni ?_;intro r s3 hr;obtain⟨t3,e3,rfl⟩:=cv hr (by rw[←List.length_pos_iff,Hs];decide);have xaf:=bB.later hr.1;have Jb:=BQ.of hr;rw[Hs] at Jb;refine jR hK ?_;clear hK K;refine jU (Ai @f8 @Hs) fun K hK=>?_;refine dk (ds:=Kdf.nE aO info (i+1)) xaf Hs.symm rfl T.c5 T.b5 (by rw[uS,Hs];omega) ?_;intro r2 s4 h4;rw[←wL] at h4;obtain⟨t4,e4,rfl⟩:=cv h4 (by rw[←List.length_pos_iff,Kdf.cj];omega);refine hK _ _ ?_;clear hK;simp only[aA,aq,if_true,if_false];refine bq _ _ ?_;clear bq K3;refine jD (Ai @f10 @FW) ?_;refine⟨⟨i+1,by omega,f0,f1,f2,rfl,by simpa only[aB,Nc,↓reduceIte] using Jb,by simpa only[aB,Nc,↓reduceIte] using h4⟩,?_⟩;refine Nat.lt_of_lt_of_le ?_ ZE;simp only[aB,Nc,↓reduceIte,Kdf.cj];omega
    rcases bB.2 with⟨FX,rfl⟩|⟨t,e,_,_,rfl⟩
    ·have fD:32*i=0:=(by rw[←uS,FX];rfl);refine jB (Ai @Sc (Ai @g2 (decide_eq_true (show((0:Nat):Int)<(m:Int) by omega)))) ?_;refine jE ?_;refine ab ?_;simp only[aA];refine tq _ ?_ ?_ ?_ ?_ ?_ ?_
     ·simp only[aB,g0,Nc,↓reduceIte]
     ·simp only[aB,g1,Nc,↓reduceIte]
     ·simp only[aB,g2,Nc,↓reduceIte]
     ·simp only[aB,g10,Nc,↓reduceIte]
     ·simp only[aB,Sc,Nc,↓reduceIte]
     ·simp only[aB,hr9,Nc,↓reduceIte]
    ·refine jB (Ai @Sc (Ai @g2 (Ai @uS (decide_eq_true (show((32*i:Nat):Int)<(m:Int) by omega))))) ?_;refine jE ?_;refine ab ?_;simp only[aA];refine tq _ ?_ ?_ ?_ ?_ ?_ ?_
     ·simp only[aB,g0,Nc,↓reduceIte]
     ·simp only[aB,g1,Nc,↓reduceIte]
     ·simp only[aB,g2,Nc,↓reduceIte]
     ·simp only[aB,g10,Nc,↓reduceIte]
     ·simp only[aB,Sc,uS,Nc,↓reduceIte]
     ·simp only[aB,hr9,Nc,↓reduceIte]
   ·obtain rfl:i=Kdf.rounds m:=(by omega);have hle:=Kdf.vv m;have hs:=bB.1;have sP:(0:Int)≤(m:Int):=(by omega);rcases bB.2 with⟨FX,rfl⟩|⟨t,e,_,_,rfl⟩
    ·have fD:32*Kdf.rounds m=0:=(by rw[←uS,FX];rfl);obtain rfl:m=0:=(by omega);refine jB (Ai @Sc (Ai @g2 (decide_eq_false (show ¬((0:Nat):Int)<((0:Nat):Int) by decide)))) ?_;refine jF ?_;refine aC ?_;simp only[aA,aq,if_true];clear aU K2;refine hK _ _ ?_;clear hK K;refine jB (Ai @Sc (Ai @g2 (show((0:Nat):Int)=0 from rfl))) ?_;refine jI ?_;refine⟨_,s,AV.da (AV.aM (sz:=1)) (AV.aE.refl _),hs,?_,rfl⟩;have he:Kdf.expand aO info 0=[]:=List.eq_nil_of_length_eq_zero (Kdf.gU aO info 0);rw[iZ,fA,he];rfl
    ·refine jB (Ai @Sc (Ai @g2 (Ai @uS (decide_eq_false (show ¬((32*Kdf.rounds m:Nat):Int)<(m:Int) by omega))))) ?_;refine jF ?_;refine aC ?_;simp only[aA,aq,if_true];clear aU K2;refine hK _ _ ?_;clear hK K;refine jB (Ai @Sc (Ai @g2 (Ai @uS (Ai @sP (show(m:Int)≤((32*Kdf.rounds m:Nat):Int) by omega))))) ?_;refine jI ?_;refine⟨_,s,AV.da AV.bN (AV.aE.refl _),hs,?_,rfl⟩;rw[iZ,fA,Kdf.gU,Nat.sub_zero];rfl
theorem J9(i:Nat):cE .u8 (i:Int)=((UInt8.ofNat i).toNat:Int):=by
 rw[gN (k:=.u8) rfl,UInt8.toNat_ofNat'];simp only[IntKind.bits]
theorem QB(c:UInt8):isByte (.v (.int .u8 (c.toNat:Int)))=true:=by
 have:=di [c];simpa[ae] using this
theorem QC(c:UInt8):kW [.v (.int .u8 (c.toNat:Int))]=⟨[c].toArray⟩:=dC [c]
theorem wX(aO info:List UInt8)(hk:aO.length≤2^37)(hi:info.length≤2^37)(m:Nat)(hm:m≤8160)(s:AS):
  aj prog Γ 117 [.v (.string ⟨aO.toArray⟩),.v (.string ⟨info.toArray⟩),.v (.int .i64 m)] s (fun r s'=>r=.v (.string ⟨(Kdf.expand aO info m).toArray⟩)∧s'=s):=by
 refine aa func117 rfl ntmps117 results117 (by simp) ?_;have hmr:32*Kdf.rounds m≤8191:=(by unfold Kdf.rounds;omega);refine jA ?_;refine jA ?_;refine wK fun K hK=>?_;refine jA ?_;refine ag ?_;refine aD (fun E s1=>∃i:Nat,i≤Kdf.rounds m∧E 0=.v (.string ⟨aO.toArray⟩)∧E 1=.v (.string ⟨info.toArray⟩)∧E 2=.v (.int .i64 m)∧E 7=.v (.string ⟨(Kdf.nE aO info i).toArray⟩)∧E 8=.v (.string ⟨(Kdf.row aO info i).toArray⟩)∧E 9=.v (.int .i64 ((i+1:Nat):Int))∧s1=s)
  (fun E _=>match E 9 with |.v (.int _ x)=>300-x.toNat|_=>0) ?_ ?_
 ·exact⟨0,Nat.zero_le _,by simp only[aB,bx,Nc,↓reduceIte,List.getD_cons_succ,List.getD_cons_zero],by simp only[aB,bx,Nc,↓reduceIte,List.getD_cons_succ,List.getD_cons_zero],by simp only[aB,bx,Nc,↓reduceIte,List.getD_cons_succ,List.getD_cons_zero],rfl,rfl,rfl,rfl⟩
 ·rintro E2 s2 ⟨i,hir,g0,g1,g2,g7,g8,g9,rfl⟩ -
  refine wK fun K2 aU=>?_;have uS:=Kdf.cj aO info i;have Uf:=Kdf.due m i;by_cases aY:i<Kdf.rounds m
  ·have bJ:32*i<m:=Uf.2 aY;have Hs:=Kdf.uo aO info i;have P0:Kdf.nE aO info (i+1)=Mac.tag aO (Kdf.nE aO info i++info++[UInt8.ofNat (i+1)]):=rfl;have wL:Kdf.row aO info (i+1)=Kdf.row aO info i++Kdf.nE aO info (i+1):=rfl;have xdE:(Kdf.nE aO info i).length≤32:=by
    cases i with
    |zero=>simp[Kdf.nE]
    |succ j=>rw[Kdf.uo];exact Nat.le_refl _
   refine jB (Ai @g2 (Ai @g8 (Ai @dO (Ai @uS (decide_eq_true (show((32*i:Nat):Int)<(m:Int) by omega)))))) ?_;refine jE ?_;refine ab ?_;refine aU _ _ ?_;clear aU K2;refine wK fun K3 bq=>?_;refine ag ?_;refine wS fun K hK=>?_;simp only[↓DN,Qa,Qb,Qc,Qd,Qe,Qf,Qg,Qh,reduceCtorEq,↓reduceIte,Na,Nb,Nc,Nk,Nf,Ng,Nh,Za,Zb,Zc,TT,g0,g1,g7,g9,J9,List.replicate_one,QB,QC,eF (show(Kdf.nE aO info i).length+info.length<2^62 by omega),eF (show(Kdf.nE aO info i).length+info.length+1<2^62 by omega)];refine ad (Dl aO (Kdf.nE aO info i++(info++[UInt8.ofNat (i+1)])) (by omega) (by simp only[List.length_append,List.length_cons,List.length_nil];omega) s2) ?_;rintro r s3 ⟨rfl,rfl⟩;rw[←List.append_assoc,←P0];refine jR hK ?_;clear hK K;refine jU (Ai @g8 (eF (show(Kdf.row aO info i).length+(Kdf.nE aO info (i+1)).length<2^62 by omega))) fun K hK=>?_;rw[←wL];refine hK _ _ ?_;clear hK;simp only[aA,aq,if_true,if_false];refine bq _ _ ?_;clear bq K3;refine jD (Ai @g9 (cS (i+1) (by omega))) ?_;refine⟨⟨i+1,by omega,g0,g1,g2,rfl,rfl,rfl,rfl⟩,?_⟩;simp only[g9,aB,↓reduceIte];omega
  ·obtain rfl:i=Kdf.rounds m:=(by omega);have hle:=Kdf.vv m;have sP:(0:Int)≤(m:Int):=(by omega);refine jB (Ai @g2 (Ai @g8 (Ai @dO (Ai @uS (decide_eq_false (show ¬((32*Kdf.rounds m:Nat):Int)<(m:Int) by omega)))))) ?_;refine jF ?_;refine aC ?_;simp only[aA,aq,if_true];clear aU K2;refine hK _ _ ?_;clear hK K;refine jB (Ai @g2 (Ai @g8 (Ai @dO (Ai @uS (Ai @sP (show(m:Int)≤((32*Kdf.rounds m:Nat):Int) by omega)))))) ?_;exact jJ
theorem kB(dU:Γ 0=eA Sha.H0)(hG:Γ 1=Sha.K.map wV)(aO l c:List UInt8)(n:Int)(hs:aO.length≤2^36)(hl:l.length≤2^36)(hc:c.length≤2^36)(hn: -9223372036854775808≤n∧n≤9223372036854775807)(s:AS):
  aj prog Γ 102 [al aO .any,.v (.string ⟨l.toArray⟩),al c .any,.v (.int .i64 n)] s (fun r s'=>r=.eu [al (Kdf.label aO l c n) .any,.v (.bool (Kdf.fits l c n))]∧s'=s):=by
 refine aa func102 rfl ntmps102 results102 (by simp) ?_;have sO:(Kdf.DH++l).length=4+l.length:=(by simp[Kdf.DH];omega);refine jA ?_;refine jQ fun K hK=>?_;refine ad (qC s) ?_;rintro r s1 ⟨p,rfl,h1⟩;refine jR hK ?_;clear hK K;refine jQ fun K hK=>?_;refine ad (C5 s s1 p _ n hn (by simp) h1) ?_;rintro r s2 ⟨rfl,h2⟩;have DS:=eP 2 n ([],false);generalize xdG:bm 2 n ([],false)=Vg at *
 simp only[List.length_nil] at DS;refine jR hK ?_;clear hK K;refine jS (eF (show 4+l.length<2^62 by omega)) fun K hK=>?_;refine ad (fJ s s2 p Vg _ (Kdf.DH++l) (zQ.of (by rw[sO];omega) rfl) (by rw[sO];omega) h2) ?_;rintro r s3 ⟨rfl,h3⟩;have Jb:=Kdf.nj 1 (Kdf.DH++l) Vg;generalize xdH:dz 1 (Kdf.DH++l) Vg=st3 at *
 rw[sO] at Jb;refine jR hK ?_;clear hK K;refine jQ fun K hK=>?_;refine ad (Am s s3 p st3 _ c (zQ.any c) (by omega) h3) ?_;rintro r s4 ⟨rfl,h4⟩;have hl4:=Kdf.nj 2 c st3;have Ms:dz 2 c st3=Kdf.U6 l c n:=(by rw[Kdf.U6,xdG,xdH]);rw[Ms] at h4 hl4;refine jR hK ?_;clear hK K;refine jQ fun K hK=>?_;refine ad (iS s s4 p _ (by omega) h4) ?_;rintro r s5 ⟨rfl,rfl⟩;by_cases eY:0≤n∧n≤65535∧l.length≤251∧c.length≤65535
 ·obtain⟨q0,q1,q2,q3⟩:=eY;have hp:=Kdf.MS l c n q0 q1 q2 q3;have hf:Kdf.fits l c n=Kdf.ok n:=by
   simp only[Kdf.fits,Kdf.ok,decide_eq_true q2,decide_eq_true q3,Bool.true_and]
  have uu:Kdf.label aO l c n=Kdf.get aO (Kdf.text l c n.toNat) n:=by
   rw[Kdf.label,Kdf.get,hf]
  have kq:(Kdf.text l c n.toNat).length≤2^37:=by
   rw[hp] at hl4;simp only at hl4;omega
  rw[hp];refine jV @Bool.false_eq_true hK ?_;clear hK K;refine wK fun K hK=>?_;refine jA ?_;refine jF ?_;refine ab ?_;refine hK _ _ ?_;clear hK K;refine jK (Dm dU hG aO (Kdf.text l c n.toNat) (by omega) kq n s5) ?_;rintro s6 rfl;refine jI ?_;rw[uu,hf];exact⟨_,s,AV.aE.refl _,h4.le,rfl,rfl⟩
 ·have hp:=Kdf.Qn l c n eY;have hf:Kdf.fits l c n=false:=by
   cases hf:Kdf.fits l c n with
   |false=>rfl
   |true=>
    simp only[Kdf.fits,Bool.and_eq_true,decide_eq_true_eq] at hf;exact absurd ⟨hf.1.2,by omega,hf.1.1.1,hf.1.1.2⟩ eY
  have uu:Kdf.label aO l c n=[]:=(by rw[Kdf.label,hf];rfl);rw[hp,if_pos rfl];refine jR hK ?_;clear hK K;refine wK fun K hK=>?_;refine jA ?_;refine jE ?_;refine jA ?_;refine jI ?_;rw[uu,hf];exact⟨_,s,AV.da AV.aM (AV.aE.refl _),h4.le,rfl,rfl⟩
theorem qg(aO l c:List UInt8)(n:Int)(hs:aO.length≤2^36)(hf:Kdf.fits l c n=true)(s:AS):
  aj prog Γ 57 [.v (.string ⟨aO.toArray⟩),.v (.string ⟨l.toArray⟩),.v (.string ⟨c.toArray⟩),.v (.int .i64 n)] s (fun r s'=>r=.v (.string ⟨(Kdf.label aO l c n).toArray⟩)∧s'=s):=by
 refine aa func57 rfl ntmps57 results57 (by simp) ?_;have uu:Kdf.label aO l c n=Kdf.expand aO (Kdf.text l c n.toNat) n.toNat:=(by rw[Kdf.label,hf];rfl);simp only[Kdf.fits,Bool.and_eq_true,decide_eq_true_eq] at hf;obtain⟨⟨⟨q1,q2⟩,q3⟩,q4⟩:=hf;obtain⟨m,rfl⟩:∃m:Nat,n=(m:Int):=⟨n.toNat,by omega⟩;rw[uu,Int.toNat_natCast];have hu:cE .u64 (m:Int)=(m:Int):=Eo (by omega);have sO:(Kdf.DH++l).length=4+l.length:=(by simp[Kdf.DH];omega);have Hs:∀k n,(be k n).length=k:=jm;refine jA ?_;refine jS @hu fun K hK=>?_;refine ad (oR m 2 (by omega) (by omega) s) ?_;rintro r s1 ⟨rfl,rfl⟩;refine jN (eF (show 4+l.length<2^62 by omega)) ?_;refine ad (rr (Kdf.DH++l) 1 (by rw[sO];omega) (by omega) s1) ?_;rintro r s2 ⟨rfl,rfl⟩;have hm4:Kdf.DH.length=4:=rfl;refine jN (Ai @hm4 (Ai @jm (eF (show 2+(1+(4+l.length))<2^62 by omega)))) ?_;refine ad (rr c 2 (by omega) (by omega) s2) ?_;rintro r s3 ⟨rfl,rfl⟩;refine jN (Ai @hm4 (Ai @jm (eF (show 2+(1+(4+l.length))+(2+c.length)<2^62 by omega)))) ?_;have htx:be 2 m++(be 1 (4+l.length)++(Kdf.DH++(l++(be 2 c.length++c))))=Kdf.text l c m:=by
  simp only[Kdf.text,sO,List.append_assoc]
 have kq:(Kdf.text l c m).length≤2^37:=by
  rw[←htx];simp only[List.length_append,jm,hm4];omega
 rw[htx];refine ad (wX aO (Kdf.text l c m) (by omega) kq m (by omega) s3) ?_;rintro r s4 ⟨rfl,rfl⟩;refine jR hK ?_;clear hK K;exact jJ
theorem Ug(n:Nat):(if(251:Int)<(n:Int) then(251:Int) else(n:Int))=((min n 251:Nat):Int):=by
 split <;>omega
theorem Nj(l:List UInt8):l.take (min l.length 251)=l.take 251:=by
 rcases Nat.le_total l.length 251 with h|h
 ·rw[Nat.min_eq_left h,List.take_length,List.take_of_length_le h]
 ·rw[Nat.min_eq_right h]
theorem wh(l:List UInt8):Kdf.fits (l.take 251) [] 32=true:=by
 simp only[Kdf.fits,Bool.and_eq_true,decide_eq_true_eq,List.length_take,List.length_nil];refine⟨⟨⟨by omega,by decide⟩,by decide⟩,by decide⟩
theorem lk(dU:Γ 0=eA Sha.H0)(hG:Γ 1=Sha.K.map wV)(aO l:List UInt8)(hs:aO.length≤2^36)(hl:l.length≤2^36)(s:AS):
  aj prog Γ 42 [al aO .any,.v (.string ⟨l.toArray⟩)] s (fun r s'=>r=al (Kdf.derive aO l) .any∧s'=s):=by
 refine aa func42 rfl ntmps42 results42 (by simp) ?_;have hm:=Ug l.length;have sP:(0:Int)≤((min l.length 251:Nat):Int):=(by omega);have sO:((min l.length 251:Nat):Int)≤(l.length:Int):=(by omega);refine jA ?_;refine jS (Ai @dO (Ai @hm (Ai @sP (Ai @sO @Nj)))) fun K hK=>?_;have uu:=kB (Γ:=Γ) dU hG aO (l.take 251) [] 32 hs (by rw[List.length_take];omega) (by simp) (by decide) s;refine ad (aj.gF (gE.aE.cons (AV.aE.refl _) (gE.aE.cons (AV.aE.refl _) (gE.aE.cons AV.aM (gE.aE.cons (AV.aE.refl _) gE.aE.nil)))) uu) ?_;rintro r s1 ⟨rfl,rfl⟩;refine jR hK ?_;clear hK K;refine jA ?_;exact jJ
theorem oO(aO l:List UInt8)(hs:aO.length≤2^36)(hl:l.length≤2^36)(s:AS):
  aj prog Γ 29 [.v (.string ⟨aO.toArray⟩),.v (.string ⟨l.toArray⟩)] s (fun r s'=>r=.v (.string ⟨(Kdf.derive aO l).toArray⟩)∧s'=s):=by
 refine aa func29 rfl ntmps29 results29 (by simp) ?_;refine jA ?_;refine wK fun K hK=>?_;have tq:∀E1:Env,E1 0=.v (.string ⟨aO.toArray⟩)→E1 1=.v (.string ⟨(l.take 251).toArray⟩)→K E1 s:=by
  intro E1 e0 e1;refine hK _ _ ?_;clear hK K;have uu:=qg (Γ:=Γ) aO (l.take 251) [] 32 hs (wh l) s;generalize F2:l.take 251=l' at *
  have hd:Kdf.label aO l' [] 32=Kdf.derive aO l:=(by rw[Kdf.derive,F2]);rw[hd] at uu;refine jS (Ai @e0 @e1) fun K hK=>?_;refine ad uu ?_;rintro r s1 ⟨rfl,rfl⟩;refine jR hK ?_;clear hK K;exact jJ
 by_cases BP:251<l.length
 ·refine jB (Ai @dO (decide_eq_true (show(251:Int)<(l.length:Int) by omega))) ?_;refine jE ?_;refine jD (Ai (show(0:Int)≤251 from by decide) (show(251:Int)≤(l.length:Int) by omega)) ?_;refine tq _ ?_ ?_
  ·simp only[aB,bx,Nc,↓reduceIte,List.getD_cons_succ,List.getD_cons_zero]
  ·simp only[aB,↓reduceIte]
 ·refine jB (Ai @dO (decide_eq_false (show ¬(251:Int)<(l.length:Int) by omega))) ?_;refine jF ?_;refine ab ?_;simp only[aA];refine tq _ ?_ ?_
  ·simp only[aB,bx,Nc,↓reduceIte,List.getD_cons_succ,List.getD_cons_zero]
  ·rw[List.take_of_length_le (by omega)];simp only[aB,bx,Nc,↓reduceIte,List.getD_cons_succ,List.getD_cons_zero]
abbrev bV(x:UInt8):AV:=.v (.int .u8 (x.toNat:Int))
theorem IV(x:UInt8):x.toNat<2^IntKind.u8.bits:=by simpa[IntKind.bits] using x.toNat_lt
theorem oV(a b:UInt8):DP .u8 (a.toNat:Int) (b.toNat:Int)=(((a ^^^ b).toNat:Nat):Int):=by
 rw[Gn (k:=.u8) rfl a.toNat b.toNat (IV a) (IV b),UInt8.toNat_xor]
theorem Nl(a b:UInt8):mr .u8 (a.toNat:Int) (b.toNat:Int)=(((a &&& b).toNat:Nat):Int):=by
 rw[rM (k:=.u8) rfl a.toNat b.toNat (IV a) (IV b),UInt8.toNat_and]
theorem QD(b:UInt8):mr .u8 27 (b.toNat:Int)=((((27:UInt8) &&& b).toNat:Nat):Int):=Nl 27 b
theorem Uh(b:UInt8):mr .u8 (b.toNat:Int) 1=(((b &&& (1:UInt8)).toNat:Nat):Int):=Nl b 1
theorem QE(b:UInt8):DP .u8 99 (b.toNat:Int)=((((99:UInt8) ^^^ b).toNat:Nat):Int):=oV 99 b
theorem Sd(a:UInt8):DQ .u8 (a.toNat:Int)=((((0:UInt8)-a).toNat:Nat):Int):=by
 have:=a.toNat_lt;rw[DQ,kI rfl,UInt8.toNat_sub];simp only[IntKind.bits];rw[show(0:UInt8).toNat=0 from rfl];omega
theorem Ui(a:UInt8):kC .u8 (a.toNat:Int) 1=(((a <<< (1:UInt8)).toNat:Nat):Int):=by
 have:=rN (k:=.u8) rfl a.toNat 1;rw[show(1:Int)=((1:Nat):Int) from rfl,this,UInt8.toNat_shiftLeft];simp[IntKind.bits,Nat.shiftLeft_eq]
theorem Uj(a:UInt8):eU .u8 (a.toNat:Int) 1=(((a >>> (1:UInt8)).toNat:Nat):Int):=by
 have:=ir (k:=.u8) a.toNat 1;rw[show(1:Int)=((1:Nat):Int) from rfl,this,UInt8.toNat_shiftRight];simp[IntKind.bits,Nat.shiftRight_eq_div_pow]
theorem Uk(a:UInt8):eU .u8 (a.toNat:Int) 7=(((a >>> (7:UInt8)).toNat:Nat):Int):=by
 have:=ir (k:=.u8) a.toNat 7;rw[show(7:Int)=((7:Nat):Int) from rfl,this,UInt8.toNat_shiftRight];simp[IntKind.bits,Nat.shiftRight_eq_div_pow]
theorem BR(b:UInt8):(b >>> (1:UInt8)).toNat=b.toNat/2:=by
 rw[UInt8.toNat_shiftRight];simp[Nat.shiftRight_eq_div_pow]
theorem lz(a:UInt8)(s:AS):aj prog Γ 252 [bV a] s (fun r s'=>r=bV (Aes.Od a)∧s'=s):=by
 refine aa func252 rfl ntmps252 results252 (by simp) ?_;refine jA ?_;refine jB (Ai @Ui (Ai @Uk (Ai @Sd (Ai @QD @oV)))) ?_;exact jJ
theorem uv(x y:UInt8)(s:AS):aj prog Γ 257 [bV x,bV y] s (fun r s'=>r=bV (Aes.gm 8 0 x y)∧s'=s):=by
 refine aa func257 rfl ntmps257 results257 (by simp) ?_;refine jA ?_;refine jA ?_;refine wK fun K hK=>?_;refine ag ?_;refine aD (fun E s1=>∃(f:Nat)(o a b:UInt8),E 5=bV o∧E 0=bV a∧E 1=bV b∧b.toNat<2^f∧Aes.gm f o a b=Aes.gm 8 0 x y∧s1=s)
  (fun E _=>match E 1 with |.v (.int _ i)=>i.toNat|_=>0) ?_ ?_
 ·exact⟨8,0,x,y,by simp[aB],by simp[aB,bx],by simp[aB,bx],y.toNat_lt,rfl,rfl⟩
 ·rintro E1 s1 ⟨f,o,a,b,h5,h0,h1,hb,hinv,rfl⟩ -
  refine wK fun K2 aU=>?_;by_cases Tv:b.toNat=0
  ·refine jB (Ai @h1 (decide_eq_false (show ¬(0:Int)<(b.toNat:Int) by omega))) ?_;refine jF ?_;refine aC ?_;simp only[aA,aq,if_true];refine hK _ _ ?_;clear hK aU K K2;refine jB @h5 ?_;refine jI ?_;refine jW ⟨?_,rfl⟩;have e:b=0:=UInt8.toNat_inj.1 (by rw[Tv];rfl);rw[←hinv,e,Aes.IH]
  ·refine jB (Ai @h1 (decide_eq_true (show(0:Int)<(b.toNat:Int) by omega))) ?_;refine jE ?_;refine ab ?_;refine aU _ _ ?_;clear aU K2;refine wK fun K3 bq=>?_;refine ag ?_;refine jB (Ai @h5 (Ai @h0 (Ai @h1 (Ai @Uh (Ai @Sd (Ai @Nl @oV)))))) ?_;refine jU @h0 fun K hK=>?_;refine ad (lz a _) ?_;rintro r s' ⟨rfl,rfl⟩;refine jR hK ?_;clear hK K;simp only[aq,aA,if_true,if_false];refine bq _ _ ?_;clear bq K3;obtain⟨g,rfl⟩:∃g,f=g+1:=⟨f-1,by
    cases f with
    |zero=>simp at hb;omega
    |succ f=>simp⟩
   refine jD (Ai @h1 @Uj) ?_;refine⟨⟨g,o ^^^ (a &&& ((0:UInt8)-(b &&& 1))),Aes.Od a,b >>> 1,rfl,rfl,rfl,?_,hinv,rfl⟩,?_⟩
   ·rw[BR];rw[Nat.pow_succ] at hb;omega
   ·simp only[h1,aB,↓reduceIte,BR];omega
end Go.Proofs.YtbiefppedlodiaaGreatDoor
