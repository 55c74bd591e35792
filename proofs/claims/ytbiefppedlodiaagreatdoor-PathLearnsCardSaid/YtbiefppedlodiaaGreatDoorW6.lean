/- Contracts of functions, each walked once; each theorem states its conditions. -/
import Derived.Test.YtbiefppedlodiaaGreatDoorAMp6
import Derived.Test.YtbiefppedlodiaaGreatDoorW1
import Derived.Test.YtbiefppedlodiaaGreatDoorW5
import Derived.Test.YtbiefppedlodiaaGreatDoorW2
import Derived.Test.YtbiefppedlodiaaGreatDoorW4
import Derived.Test.YtbiefppedlodiaaGreatDoorAMp7
import Derived.Test.YtbiefppedlodiaaGreatDoorW3
import Derived.Test.YtbiefppedlodiaaGreatDoorAMp5
import Derived.Test.YtbiefppedlodiaaGreatDoorAMp4
set_option linter.unusedSimpArgs false
set_option linter.unusedVariables false
open Nat renaming reduceLT → Na, reduceLeDiff → Nb, reduceEqDiff → Nc, reduceAdd → Nk, reduceMul → Nf, reducePow → Ng, reduceSub → Nh, reduceBEq → Nz
open Int renaming reduceLT → Za, reduceLE → Zb, reduceToNat → Zc
open And renaming intro → Ai
open Go.AM renaming ashift → Qa, aconv → Qb, aindexAddr → Qc, aindex → Qd, aslice → Qe, abuiltin → Qf, awp_reg_seq → wS, awp_reg_end → wE, awp_seq_k → wK, awp_cond_k → wC
open Go.AM.AV renaming cells → Qg, one → Qh
set_option maxRecDepth 100000
set_option maxHeartbeats 8000000
namespace Go.Proofs.YtbiefppedlodiaaGreatDoor
open Go Go.AM Go.Proofs Tryz
variable{Γ:Nat→List AV}
def PR(s0:AS)(k:Nat)(cs:List AV)(L:List Int)(r:AV)(s':AS):Prop:=cZ 1 s0 s' r (k+L.length) (cs++L.map aJ)∧s0.le s'
theorem mM(hG:Γ 3=fi.map oJ)(t:List ah)(ie:bf t)(skip:List Int)(J1:skip.length≤2^61)(n:Nat)(Je:n<63)(hi:n<t.length)(um:gi (n:Int)=none∨(nd t n).kind≠0)
  (s0 s:AS) (x:AV) (k:Nat) (cs:List AV) (hx:cZ 1 s0 s x k cs) (hle:s0.le s) (hk:k+33≤100000):
  aj prog Γ 124 [aW t,.v (.int .i64 n),aG skip .any,x] s (PR s0 k cs (kV skip (nd t n) n++iR skip (nd t n).iA)):=by
 refine aa func124 rfl ntmps124 results124 (by simp) ?_;have qL:=fun s=>iE (Γ:=Γ) hG (n:Int) (by omega) s;have DE:=fun v s=>iJ (Γ:=Γ) skip v J1 s;have cT:=dh hi;have ZO:=lC (ie.nd n);have tG:=qB skip (nd t n) n;have ml:kV skip (nd t n) n=if((nd t n).kind=1∧((n/2:Nat):Int)∉skip)∨(nd t n).kind=2 then[(n:Int)] else[]:=rfl
 generalize kV skip (nd t n) n=SL at *
 generalize nd t n=N at *
 unfold aW;generalize aK ah.cells t=X at *
 obtain⟨nk,nm,ny,ll,nu⟩:=N;unfold ah.cells at cT;unfold aG at cT DE⊢;simp only at ZO ml um;have cA:(0:Int)≤(n:Int):=(by omega);refine jA ?_;refine aX 9 (by decide) ?_;intro K hK;simp only[↓DM,bE,DX,Nz,↓DN,Qa,Qb,Qc,Qd,Qe,Qf,Qg,Qh,reduceCtorEq,↓reduceIte,Na,Nb,Nc,Nk,Nf,Ng,Nh,Za,Zb,Zc,TT,au,hi,cA,cT];intro o1 h1;refine hK _ _ o1 _ rfl h1 ?_;clear hK K h1;refine wK fun K0 Mq=>?_;have h0:∀(E:Env)(lf:Int)(ok:Bool),(ok=true→nk≠0)→E 0=.sl 5 t.length X .any→E 1=.v (.int .i64 n)→E 2=.sl 1 skip.length (skip.map aJ) .any→E 3=x→E 9=.cN [.v (.int .i64 nk),.sl 1 nm.length (nm.map ae) .any,.v (.int .u64 ny),.sl 1 ll.length (ll.map ae) .any,.sl 1 nu.length (nu.map aJ) .any]→E 10=.v (.int .i64 lf)→E 11=.v (.bool ok)→K0 E s:=by
  intro E lf ok iZ g0 g1 g2 g3 g9 g10 g11;refine Mq _ _ ?_;clear Mq K0;refine wK fun K1 fQ=>?_;have h1:∀(E:Env)(s1:AS)(x1:AV),E 1=.v (.int .i64 n)→E 2=.sl 1 skip.length (skip.map aJ) .any→E 9=.cN [.v (.int .i64 nk),.sl 1 nm.length (nm.map ae) .any,.v (.int .u64 ny),.sl 1 ll.length (ll.map ae) .any,.sl 1 nu.length (nu.map aJ) .any]→E 3=x1→cZ 1 s0 s1 x1 (k+SL.length) (cs++SL.map aJ)→s0.le s1→K1 E s1:=by
   clear g0 g1 g2 g3 g9 g10 g11 hx hle;intro E s1 x1 g1 g2 g9 g3 hx hle;refine fQ _ _ ?_;clear fQ K1;refine wK fun K2 aU=>?_;refine jB @g9 ?_;refine ag ?_;refine aD (fun E s2=>∃(i:Nat)(x2:AV),i≤nu.length∧E 67=.v (.int .i64 i)∧E 66=.v (.int .i64 nu.length)∧E 65=.sl 1 nu.length (nu.map aJ) .any∧E 2=.sl 1 skip.length (skip.map aJ) .any∧E 3=x2∧cZ 1 s0 s2 x2 (k+SL.length+(iR skip (nu.take i)).length) (cs++SL.map aJ++(iR skip (nu.take i)).map aJ)∧s0.le s2)
    (fun E _=>match E 67 with |.v (.int _ i)=>nu.length-i.toNat|_=>0) ?_ ?_
   ·refine⟨0,x1,Nat.zero_le _,rfl,rfl,rfl,g2,g3,?_,hle⟩;have :iR skip (nu.take 0)=[]:=(by simp[iR]);rw[this];simpa using hx
   ·clear g1 g2 g9 g3 hx hle;rintro E2 s2 ⟨i,x2,aY,N1,ZP,g65,g2,g3,hx,hle⟩ -
    by_cases rm:i<nu.length
    ·refine jB (Ai @N1 (Ai @ZP (Ai @au (decide_eq_true rm)))) ?_;refine wK fun K3 bq=>?_;refine jE ?_;refine ab ?_;refine bq _ _ ?_;clear bq K3;refine wK fun K4 dM=>?_;refine ag ?_;have MP:(0:Int)≤(i:Int):=(by omega);have Hk:=eB rm;have hub:=ZO.2 nu[i] (List.getElem_mem rm);have Ot:=BB (skip:=skip) rm;have hlen:=tW skip (nu.take i);have bJ:(nu.take i).length=i:=(by rw[List.length_take];omega);generalize nu[i]=u at *
     have bX:∀(E:Env)(s3:AS)(x3:AV),E 67=.v (.int .i64 i)→E 66=.v (.int .i64 nu.length)→E 65=.sl 1 nu.length (nu.map aJ) .any→E 2=.sl 1 skip.length (skip.map aJ) .any→E 3=x3→cZ 1 s0 s3 x3 (k+SL.length+(iR skip (nu.take (i+1))).length) (cs++SL.map aJ++(iR skip (nu.take (i+1))).map aJ)→s0.le s3→K4 E s3:=by
      intro E s3 x3 f67 f66 f65 f2 f3 fx zZ;refine dM _ _ ?_;clear dM K4;refine jD (Ai @f67 (bd i (by omega))) ?_;refine⟨⟨i+1,x3,by omega,rfl,f66,f65,f2,f3,fx,zZ⟩,?_⟩;simp only[N1,aB,↓reduceIte];omega
     clear dM;rw[Ot] at bX;generalize iR skip (nu.take i)=F at *
     generalize hCS:cs++SL.map aJ=CS at *
     refine jB (Ai @g65 (Ai @N1 (Ai @au (Ai @rm (Ai @MP (Ai @Hk @aJ.eq_1)))))) ?_;refine jS @g2 fun K hK=>?_;refine ad (DE _ _) ?_;rintro r s3 ⟨rfl,rfl⟩;by_cases hs:u∈skip
     ·rw[decide_eq_true hs];rw[if_neg (fun q=>q hs),List.append_nil] at bX;refine jR hK ?_;clear hK K;refine jF ?_;refine ab ?_;simp only[aq,aA,if_true,if_false];exact bX _ _ _ N1 ZP g65 g2 g3 hx hle
     ·rw[decide_eq_false hs];rw[if_pos hs] at bX;have e2:ia .i64 2 u=2*u:=dJ (by omega);rw[List.length_append,List.length_singleton,List.map_append,List.map_cons,List.map_nil,←Nat.add_assoc,←List.append_assoc] at bX;refine jR hK ?_;clear hK K;refine jE ?_;rcases hx with⟨rfl,fD,sF⟩|⟨t',e,rfl,nF,iG⟩
      ·refine wE fun K hK=>?_;simp only[↓DN,Qa,Qb,Qc,Qd,Qe,Qf,Qg,Qh,reduceCtorEq,↓reduceIte,Na,Nb,Nc,Nk,Nf,Ng,Nh,Za,Zb,Zc,TT,g3,e2,bU,List.replicate_succ];intro t' nF;refine hK _ _ ?_;simp only[aq,aA,if_true,if_false];rw[fD,sF] at bX;exact bX _ _ (.sl 1 1 [.v (.int .i64 (2*u))] (.own t' 0)) N1 ZP g65 g2 rfl (.inr ⟨t',0,rfl,by simp[AS.bA],aZ hle nF⟩) (AS.bn hle (aZ hle nF) 0)
      ·refine wE fun K hK=>?_;simp only[↓DN,Qa,Qb,Qc,Qd,Qe,Qf,Qg,Qh,reduceCtorEq,↓reduceIte,Na,Nb,Nc,Nk,Nf,Ng,Nh,Za,Zb,Zc,TT,g3,e2,nF,List.replicate_succ];refine⟨by omega,by omega,hK _ _ ?_⟩;simp only[aq,aA,if_true,if_false];exact bX _ _ (.sl 1 (k+SL.length+F.length+1) (CS++(F.map aJ++[.v (.int .i64 (2*u))])) (.own t' (e+1))) N1 ZP g65 g2 rfl (.inr ⟨t',e+1,by rw[List.append_assoc];rfl,by simp[AS.bA],iG⟩) (AS.bn hle iG (e+1))
    ·refine jB (Ai @N1 (Ai @ZP (Ai @au (decide_eq_false rm)))) ?_;refine wK fun K3 bq=>?_;refine jF ?_;refine aC ?_;simp only[aA,aq,if_true];refine aU _ _ ?_;clear aU K2 bq K3;rw[List.take_of_length_le (by omega)] at hx;refine jB @g3 ?_;refine jI ?_;refine⟨_,_,AV.aE.refl _,AS.le.refl _,?_,hle⟩;rw[List.length_append,List.map_append,←Nat.add_assoc,←List.append_assoc];exact hx
  clear fQ;refine ag ?_;refine wK fun K3 bq=>?_;have h3:∀(E:Env),E 1=.v (.int .i64 n)→E 2=.sl 1 skip.length (skip.map aJ) .any→E 9=.cN [.v (.int .i64 nk),.sl 1 nm.length (nm.map ae) .any,.v (.int .u64 ny),.sl 1 ll.length (ll.map ae) .any,.sl 1 nu.length (nu.map aJ) .any]→E 3=x→E 25=.v (.bool false)→K3 E s:=by
   clear g0 g1 g2 g3 g9 g10 g11;intro E g1 g2 g9 g3 U3;refine bq _ _ ?_;clear bq K3;refine wC fun X Y hX hY=>?_;refine jP (Ai @DB @U3) ?_;refine hY ?_;clear hX hY X Y;refine wK fun K2 aU=>?_;have h2:∀(E:Env)(b:Bool),(b=true↔(nk=1∧((n/2:Nat):Int)∉skip)∨nk=2)→E 1=.v (.int .i64 n)→E 2=.sl 1 skip.length (skip.map aJ) .any→E 9=.cN [.v (.int .i64 nk),.sl 1 nm.length (nm.map ae) .any,.v (.int .u64 ny),.sl 1 ll.length (ll.map ae) .any,.sl 1 nu.length (nu.map aJ) .any]→E 3=x→E 46=.v (.bool b)→K2 E s:=by
    clear g1 g2 g3 g9 U3;intro E b hb g1 g2 g9 g3 U5;refine aU _ _ ?_;clear aU K2;cases b with
    |false=>
     rw[if_neg (fun q=>by have:=hb.2 q;cases this)] at ml;subst ml;refine wC fun X Y hX hY=>?_;refine jP (Ai @DB @U5) ?_;refine hY ?_;clear hX hY X Y;refine ab ?_;simp only[aq,aA,if_true,if_false];refine h1 _ _ x g1 g2 g9 g3 ?_ hle;simpa using hx
    |true=>
     rw[if_pos (hb.1 rfl)] at ml;subst ml;refine wC fun X Y hX hY=>?_;refine jP (Ai @DB @U5) ?_;refine hX ?_;clear hX hY X Y;rcases hx with⟨rfl,fD,sF⟩|⟨t',e,rfl,nF,iG⟩
     ·refine wE fun K hK=>?_;simp only[↓DN,Qa,Qb,Qc,Qd,Qe,Qf,Qg,Qh,reduceCtorEq,↓reduceIte,Na,Nb,Nc,Nk,Nf,Ng,Nh,Za,Zb,Zc,TT,g3,g1,bU,List.replicate_succ];intro t' nF;refine hK _ _ ?_;simp only[aq,aA,if_true,if_false];rw[fD,sF] at h1;exact h1 _ _ (.sl 1 1 [.v (.int .i64 (n:Int))] (.own t' 0)) g1 g2 g9 rfl (.inr ⟨t',0,rfl,by simp[AS.bA],aZ hle nF⟩) (AS.bn hle (aZ hle nF) 0)
     ·refine wE fun K hK=>?_;simp only[↓DN,Qa,Qb,Qc,Qd,Qe,Qf,Qg,Qh,reduceCtorEq,↓reduceIte,Na,Nb,Nc,Nk,Nf,Ng,Nh,Za,Zb,Zc,TT,g3,g1,nF,List.replicate_succ];refine⟨by omega,by omega,hK _ _ ?_⟩;simp only[aq,aA,if_true,if_false];exact h1 _ _ (.sl 1 (k+1) (cs++[.v (.int .i64 (n:Int))]) (.own t' (e+1))) g1 g2 g9 rfl (.inr ⟨t',e+1,rfl,by simp[AS.bA],iG⟩) (AS.bn hle iG (e+1))
   clear aU;refine wK fun K4 dM=>?_;have h4:∀(E:Env)(b:Bool),(b=true↔nk=1∧((n/2:Nat):Int)∉skip)→E 1=.v (.int .i64 n)→E 2=.sl 1 skip.length (skip.map aJ) .any→E 9=.cN [.v (.int .i64 nk),.sl 1 nm.length (nm.map ae) .any,.v (.int .u64 ny),.sl 1 ll.length (ll.map ae) .any,.sl 1 nu.length (nu.map aJ) .any]→E 3=x→E 46=.v (.bool b)→K4 E s:=by
    clear g1 g2 g9 g3 U3;intro E b hb g1 g2 g9 g3 U5;refine dM _ _ ?_;clear dM K4;cases b with
    |true=>
     refine wC fun X Y hX hY=>?_;refine jP (Ai @DB @U5) ?_;refine hX ?_;clear hX hY X Y;refine ab ?_;exact h2 _ true ⟨fun _=>.inl (hb.1 rfl),fun _=>rfl⟩ g1 g2 g9 g3 U5
    |false=>
     refine wC fun X Y hX hY=>?_;refine jP (Ai @DB @U5) ?_;refine hY ?_;clear hX hY X Y;have KU:¬(nk=1∧((n/2:Nat):Int)∉skip):=(fun q=>by have:=hb.2 q;cases this);by_cases k2:nk=2
     ·refine jU (Ai @g9 (lU k2)) fun K hK=>?_;exact hK _ _ (h2 _ true ⟨fun _=>.inr k2,fun _=>rfl⟩ g1 g2 g9 g3 rfl)
     ·refine jU (Ai @g9 (ko k2)) fun K hK=>?_;exact hK _ _ (h2 _ false ⟨(by intro h;cases h),fun q=>by rcases q with q|q;exact absurd q KU;exact absurd q k2⟩ g1 g2 g9 g3 rfl)
   clear dM;by_cases k1:nk=1
   ·refine jU (Ai @g9 (Ai (lU k1) (Ai @g2 (Ai @g1 (Ai @lV (dL n (by omega))))))) fun K hK=>?_;refine ad (DE _ _) ?_;rintro r s1 ⟨rfl,rfl⟩;by_cases hs:((n/2:Nat):Int)∈skip
    ·rw[decide_eq_true hs];refine jM ?_;exact hK _ _ (h4 _ false ⟨(by intro h;cases h),fun q=>absurd hs q.2⟩ g1 g2 g9 g3 rfl)
    ·rw[decide_eq_false hs];refine jM ?_;exact hK _ _ (h4 _ true ⟨fun _=>⟨k1,hs⟩,fun _=>rfl⟩ g1 g2 g9 g3 rfl)
   ·refine jU (Ai @g9 (ko k1)) fun K hK=>?_;exact hK _ _ (h4 _ false ⟨(by intro h;cases h),fun q=>absurd q.1 k1⟩ g1 g2 g9 g3 rfl)
  clear bq;by_cases k0:nk=0
  ·obtain rfl:ok=false:=by
    cases ok with
    |false=>rfl
    |true=>exact absurd k0 (iZ rfl)
   refine jU (Ai @g9 (Ai @g11 (lU k0))) fun K hK=>?_;exact hK _ _ (h3 _ g1 g2 g9 g3 rfl)
  ·refine jU (Ai @g9 (ko k0)) fun K hK=>?_;exact hK _ _ (h3 _ g1 g2 g9 g3 rfl)
 clear Mq;rcases um with um|um
 ·rw[um] at qL;refine jT fun K hK=>?_;refine ad (qL _) ?_;rintro r s1 ⟨rfl,rfl⟩;refine jM ?_;exact hK _ _ (h0 _ 0 false (by intro h;cases h) rfl rfl rfl rfl rfl rfl rfl)
 ·cases DG:gi (n:Int) with
  |none=>
   rw[DG] at qL;refine jT fun K hK=>?_;refine ad (qL _) ?_;rintro r s1 ⟨rfl,rfl⟩;refine jM ?_;exact hK _ _ (h0 _ 0 false (by intro h;cases h) rfl rfl rfl rfl rfl rfl rfl)
  |some p=>
   rw[DG] at qL;refine jT fun K hK=>?_;refine ad (qL _) ?_;rintro r s1 ⟨rfl,rfl⟩;refine jM ?_;exact hK _ _ (h0 _ p.1 true (fun _=>um) rfl rfl rfl rfl rfl rfl rfl)
theorem wW(hG:Γ 3=fi.map oJ)(t:List ah)(ie:bf t)(skip:List Int)(J1:skip.length≤2^61):∀(l n:Nat),lv n=l→n<63→n+2^l≤t.length→
  ∀(s0 s:AS)(x:AV)(k:Nat)(cs:List AV),cZ 1 s0 s x k cs→s0.le s→k+33*2^l≤100000→
  aj prog Γ 124 [aW t,.v (.int .i64 n),aG skip .any,x] s (PR s0 k cs (fG t skip l n)):=by
 intro l;induction l with
 |zero=>
  intro n hl hn hs s0 s x k cs hx hle hk;exact mM hG t ie skip J1 n hn (by have :(2:Nat)^0=1:=rfl;omega) (.inl (vg hn hl)) s0 s x k cs hx hle (by have :(2:Nat)^0=1:=rfl;omega)
 |succ l ih=>
  intro n hl hn hs s0 s x k cs hx hle hk;have wB:0<2^l:=Nat.two_pow_pos l;have PH:2^(l+1)=2^l+2^l:=(by rw[Nat.pow_succ];omega);have hi:n<t.length:=(by omega);by_cases k0:(nd t n).kind=0
  ·have dV:fG t skip (l+1) n=fG t skip l (n-2^l)++fG t skip l (n+2^l):=(by simp only[fG];exact if_pos k0);rw[dV];refine aa func124 rfl ntmps124 results124 (by simp) ?_;obtain⟨DG,UD,DS,Ci,Kj,UH⟩:=qc hn hl;have qL:=fun s=>iE (Γ:=Γ) hG (n:Int) (by omega) s;have RO:=fun s=>mT (Γ:=Γ) hG (n:Int) (by omega) s;rw[DG] at qL RO;have ZQ:=iM ie skip l (n-2^l);have h1:=fun s hle=>ih (n-2^l) UD (by omega) (by omega) s0 s x k cs hle;have h2:=fun s r hx=>ih (n+2^l) DS Ci (by omega) s0 s r (k+(fG t skip l (n-2^l)).length) (cs++(fG t skip l (n-2^l)).map aJ) hx;have cT:=dh hi;clear ih dV;generalize fG t skip l (n-2^l)=L1 at *
   generalize fG t skip l (n+2^l)=L2 at *
   generalize nd t n=N at *
   unfold aW at *
   generalize aK ah.cells t=X at *
   obtain⟨nk,nm,ny,ll,nu⟩:=N;unfold ah.cells at cT;unfold aG at *
   simp only at k0;subst k0;have cA:(0:Int)≤(n:Int):=(by omega);refine jA ?_;refine aX 9 (by decide) ?_;intro K hK;simp only[↓DM,bE,DX,Nz,↓DN,Qa,Qb,Qc,Qd,Qe,Qf,Qg,Qh,reduceCtorEq,↓reduceIte,Na,Nb,Nc,Nk,Nf,Ng,Nh,Za,Zb,Zc,TT,au,hi,cA,cT];intro o1 xA;refine hK _ _ o1 _ rfl xA ?_;clear hK K xA;refine jK (qL _) ?_;rintro s1 rfl;refine wK fun K1 fQ=>?_;refine ag ?_;refine jA ?_;refine jE ?_;refine jK (RO _) ?_;rintro s2 rfl;refine jQ fun K hK=>?_;refine ad (h1 _ hx hle (by omega)) ?_;rintro r s3 ⟨hx3,gH⟩;refine jM ?_;refine ad (h2 _ _ hx3 gH (by omega)) ?_;rintro r2 s4 ⟨ZR,fM⟩;refine jR hK ?_;clear hK K;refine jI ?_;refine⟨_,_,AV.aE.refl _,AS.le.refl _,?_,fM⟩;rw[List.length_append,List.map_append,←Nat.add_assoc,←List.append_assoc];exact ZR
  ·have dV:fG t skip (l+1) n=kV skip (nd t n) n++iR skip (nd t n).iA:=(by simp only[fG];exact if_neg k0);rw[dV];exact mM hG t ie skip J1 n hn hi (.inr k0) s0 s x k cs hx hle (by omega)
theorem jt(hG:Γ 3=fi.map oJ)(t:List ah)(ht:eI t)(x:Int)(skip:List Int)(J1:skip.length≤2^61)(s:AS):
  aj prog Γ 61 [aW t,.v (.int .i64 x),aG skip .any] s (fun r s'=>r=aG (bC t x skip) .any∧s'=s):=by
 refine aa func61 rfl ntmps61 results61 (by simp) ?_;have hr:=fun s=>kf (Γ:=Γ) hG t ht s;have hh:=fun(ie:bf t)n hn hs s=>wW (Γ:=Γ) hG t ie skip J1 (lv n) n rfl hn hs s s bU 0 [] (cZ.nil _ _ _) (AS.le.refl _);have kq:=ht.1;have vz:¬(0≤x∧x<(t.length:Int)∧bf t)→bC t x skip=[]:=fun h=>if_neg h;have MO:0≤x∧x<(t.length:Int)∧bf t→bC t x skip=fG t skip (lv x.toNat) x.toNat:=fun h=>if_pos h;unfold aW at *
 generalize aK ah.cells t=X at *
 unfold bU at hh;refine jA ?_;refine wK fun K hK=>?_;by_cases h0:x<0
 ·refine jB (decide_eq_true h0) ?_;refine jE ?_;refine jA ?_;refine jI ?_;refine⟨_,_,AV.aM (sz:=1),AS.le.refl _,?_,rfl⟩;rw[vz (fun k=>by omega)];rfl
 ·by_cases h1:(t.length:Int)≤x
  ·refine jB (Ai (decide_eq_false h0) (decide_eq_true h1)) ?_;refine jE ?_;refine jA ?_;refine jI ?_;refine⟨_,_,AV.aM (sz:=1),AS.le.refl _,?_,rfl⟩;rw[vz (fun k=>by omega)];rfl
  ·refine jS (Ai (decide_eq_false h0) (decide_eq_false h1)) fun K hK=>?_;refine ad (hr _) ?_;rintro r s1 ⟨rfl,rfl⟩;by_cases ie:bf t
   ·rw[decide_eq_true ie];refine jR hK ?_;clear hK K;refine jF ?_;refine ab ?_;refine hK _ _ ?_;clear hK K;obtain⟨n,rfl⟩:=Int.eq_ofNat_of_zero_le (show 0≤x by omega);have hn:n<t.length:=(by omega);obtain⟨gV,nU⟩:=ie.span hn;have xz:=mG (nn n);refine jQ fun K hK=>?_;refine ad (hh ie n nU gV _ (by omega)) ?_;rintro r s2 ⟨hx,hle⟩;refine jR hK ?_;clear hK K;refine jI ?_;refine⟨_,_,hx.aE,hle,?_,rfl⟩;rw[MO ⟨by omega,by omega,ie⟩,Int.toNat_natCast];unfold aG;rw[Nat.zero_add,List.nil_append]
   ·rw[decide_eq_false ie];refine jR hK ?_;clear hK K;refine jE ?_;refine jA ?_;refine jI ?_;refine⟨_,_,AV.aM (sz:=1),AS.le.refl _,?_,rfl⟩;rw[vz (fun k=>ie k.2.2)];rfl
theorem Bw(l:List Int)(v:Int)(hl:l.length≤2^61)(s:AS):aj prog Γ 23 [aG l .any,.v (.int .i64 v)] s (fun r s'=>r=.v (.bool (decide (v∈l)))∧s'=s):=by
 refine aa func23 rfl ntmps23 results23 (by simp) ?_;unfold aG;refine jA ?_;refine wK fun K hK=>?_;refine jA ?_;refine ag ?_;refine aD (fun E s2=>∃i:Nat,i≤l.length∧v∉l.take i∧E 5=.v (.int .i64 i)∧E 0=.sl 1 l.length (l.map aJ) .any∧E 1=.v (.int .i64 v)∧s2=s)
  (fun E _=>match E 5 with |.v (.int _ i)=>l.length-i.toNat|_=>0) ?_ ?_
 ·exact⟨0,Nat.zero_le _,by simp,rfl,rfl,rfl,rfl⟩
 ·rintro E1 s2 ⟨i,hi,hv,g5,g0,g1,rfl⟩ -
  refine wK fun K2 aU=>?_;by_cases aY:i<l.length
  ·refine jB (Ai @g5 (Ai @g0 (Ai @au (decide_eq_true aY)))) ?_;refine jE ?_;refine ab ?_;refine aU _ _ ?_;clear aU K2;refine wK fun K3 bq=>?_;refine ag ?_;have cT:=eB aY;have cA:(0:Int)≤(i:Int):=(by omega);have jk:l[i]∈l:=List.getElem_mem aY;have eo:l.take (i+1)=l.take i++[l[i]]:=List.take_succ_eq_append_getElem aY;generalize l[i]=u at *
   by_cases hq:u=v
   ·refine jB (Ai @g0 (Ai @g1 (Ai @g5 (Ai @au (Ai @aY (Ai @cA (Ai @cT (Ai @aJ.eq_1 (lU hq))))))))) ?_;refine jE ?_;refine jA ?_;refine jI ?_;rw[decide_eq_true (by rw[←hq];exact jk)];exact jW ⟨rfl,rfl⟩
   ·refine jB (Ai @g0 (Ai @g1 (Ai @g5 (Ai @au (Ai @aY (Ai @cA (Ai @cT (Ai @aJ.eq_1 (ko hq))))))))) ?_;refine jF ?_;refine ab ?_;simp only[aq,aA,if_true,if_false];refine bq _ _ ?_;clear bq K3;refine jD (Ai @g5 (bd i (by omega))) ?_;refine⟨⟨i+1,by omega,?_,rfl,g0,g1,rfl⟩,?_⟩
    ·rw[eo,List.mem_append,List.mem_singleton];rintro(h|h)
     ·exact hv h
     ·exact hq h.symm
    ·simp only[g5,aB,↓reduceIte];omega
  ·refine jB (Ai @g5 (Ai @g0 (Ai @au (decide_eq_false aY)))) ?_;refine jF ?_;refine aC ?_;simp only[aA,aq,if_true];refine hK _ _ ?_;clear hK aU K2 K;rw[List.take_of_length_le (by omega)] at hv;refine jA ?_;refine jI ?_;rw[decide_eq_false hv];exact jW ⟨rfl,rfl⟩
theorem kA(t:List ah)(ie:bf t)(skip:List Int)(J1:skip.length≤2^61)(n:Nat)(Je:n<63)(hi:n<t.length)(um:(nd t n).kind≠0)(s:AS):
  aj prog Γ 26 [aW t,.v (.int .i64 n),aG skip .any] s (PR s 0 [] (kV skip (nd t n) n++iR skip (nd t n).iA)):=by
 refine aa func26 rfl ntmps26 results26 (by simp) ?_;have qL:=fun s=>dY (Γ:=Γ) (n:Int) (by omega) s;have DE:=fun v s=>Bw (Γ:=Γ) skip v J1 s;have cT:=dh hi;have ZO:=lC (ie.nd n);have tG:=qB skip (nd t n) n;have xdl:=js (ie.nd n);have ml:kV skip (nd t n) n=if((nd t n).kind=1∧((n/2:Nat):Int)∉skip)∨(nd t n).kind=2 then[(n:Int)] else[]:=rfl
 generalize kV skip (nd t n) n=SL at *
 generalize nd t n=N at *
 unfold aW;generalize aK ah.cells t=X at *
 obtain⟨nk,nm,ny,ll,nu⟩:=N;unfold ah.cells at cT;unfold aG at cT DE⊢;simp only at ZO ml um xdl;have cA:(0:Int)≤(n:Int):=(by omega);refine jA ?_;refine aX 7 (by decide) ?_;intro K hK;simp only[↓DM,bE,DX,Nz,↓DN,Qa,Qb,Qc,Qd,Qe,Qf,Qg,Qh,reduceCtorEq,↓reduceIte,Na,Nb,Nc,Nk,Nf,Ng,Nh,Za,Zb,Zc,TT,au,hi,cA,cT];intro o1 h1;refine hK _ _ o1 _ rfl h1 ?_;clear hK K h1;refine wK fun K0 Mq=>?_;have h0:∀(E:Env),E 1=.v (.int .i64 n)→E 2=.sl 1 skip.length (skip.map aJ) .any→E 7=.cN [.v (.int .i64 nk),.sl 1 nm.length (nm.map ae) .any,.v (.int .u64 ny),.sl 1 ll.length (ll.map ae) .any,.sl 1 nu.length (nu.map aJ) .any]→K0 E s:=by
  intro E g1 g2 g7;refine Mq _ _ ?_;clear Mq K0;refine wK fun K1 fQ=>?_;refine jB (Ai @g7 (ko um)) ?_;refine jF ?_;refine ab ?_;refine fQ _ _ ?_;clear fQ K1;refine jA ?_;refine wK fun K2 aU=>?_;have h2:∀(E:Env)(s1:AS)(x1:AV),E 2=.sl 1 skip.length (skip.map aJ) .any→E 7=.cN [.v (.int .i64 nk),.sl 1 nm.length (nm.map ae) .any,.v (.int .u64 ny),.sl 1 ll.length (ll.map ae) .any,.sl 1 nu.length (nu.map aJ) .any]→E 11=x1→cZ 1 s s1 x1 SL.length (SL.map aJ)→s.le s1→K2 E s1:=by
   clear g1 g2 g7;intro E s1 x1 g2 g7 g11 hx hle;refine aU _ _ ?_;clear aU K2;refine wK fun K3 bq=>?_;refine jA ?_;refine ag ?_;refine aD (fun E s2=>∃(i:Nat)(x2:AV),i≤nu.length∧E 12=.v (.int .i64 i)∧E 7=.cN [.v (.int .i64 nk),.sl 1 nm.length (nm.map ae) .any,.v (.int .u64 ny),.sl 1 ll.length (ll.map ae) .any,.sl 1 nu.length (nu.map aJ) .any]∧E 2=.sl 1 skip.length (skip.map aJ) .any∧E 11=x2∧cZ 1 s s2 x2 (SL.length+(iR skip (nu.take i)).length) (SL.map aJ++(iR skip (nu.take i)).map aJ)∧s.le s2)
    (fun E _=>match E 12 with |.v (.int _ i)=>nu.length-i.toNat|_=>0) ?_ ?_
   ·refine⟨0,x1,Nat.zero_le _,rfl,g7,g2,g11,?_,hle⟩;have :iR skip (nu.take 0)=[]:=(by simp[iR]);rw[this];simpa using hx
   ·clear g2 g7 g11 hx hle;rintro E2 s2 ⟨i,x2,aY,g12,g7,g2,g11,hx,hle⟩ -
    refine wK fun K4 dM=>?_;by_cases rm:i<nu.length
    ·refine jB (Ai @g12 (Ai @g7 (Ai @au (decide_eq_true rm)))) ?_;refine jE ?_;refine ab ?_;refine dM _ _ ?_;clear dM K4;refine wK fun K5 ju=>?_;refine ag ?_;have MP:(0:Int)≤(i:Int):=(by omega);have Hk:=eB rm;have hub:=ZO.2 nu[i] (List.getElem_mem rm);have Ot:=BB (skip:=skip) rm;have hlen:=tW skip (nu.take i);have bJ:(nu.take i).length=i:=(by rw[List.length_take];omega);generalize nu[i]=u at *
     have bX:∀(E:Env)(s3:AS)(x3:AV),E 12=.v (.int .i64 i)→E 7=.cN [.v (.int .i64 nk),.sl 1 nm.length (nm.map ae) .any,.v (.int .u64 ny),.sl 1 ll.length (ll.map ae) .any,.sl 1 nu.length (nu.map aJ) .any]→E 2=.sl 1 skip.length (skip.map aJ) .any→E 11=x3→cZ 1 s s3 x3 (SL.length+(iR skip (nu.take (i+1))).length) (SL.map aJ++(iR skip (nu.take (i+1))).map aJ)→s.le s3→K5 E s3:=by
      intro E s3 x3 f12 f7 f2 f11 fx zZ;refine ju _ _ ?_;clear ju K5;refine jD (Ai @f12 (bd i (by omega))) ?_;refine⟨⟨i+1,x3,by omega,rfl,f7,f2,f11,fx,zZ⟩,?_⟩;simp only[g12,aB,↓reduceIte];omega
     clear ju;rw[Ot] at bX;generalize iR skip (nu.take i)=F at *
     generalize hCS:SL.map aJ=CS at *
     refine jS (Ai @g2 (Ai @g7 (Ai @g12 (Ai @au (Ai @rm (Ai @MP (Ai @Hk @aJ.eq_1))))))) fun K hK=>?_;refine ad (DE _ _) ?_;rintro r s3 ⟨rfl,rfl⟩;by_cases hs:u∈skip
     ·rw[decide_eq_true hs];rw[if_neg (fun q=>q hs),List.append_nil] at bX;refine jR hK ?_;clear hK K;refine jF ?_;refine ab ?_;simp only[aq,aA,if_true,if_false];exact bX _ _ _ g12 g7 g2 g11 hx hle
     ·rw[decide_eq_false hs];rw[if_pos hs] at bX;have e2:ia .i64 2 u=2*u:=dJ (by omega);rw[List.length_append,List.length_singleton,List.map_append,List.map_cons,List.map_nil,←Nat.add_assoc,←List.append_assoc] at bX;refine jR hK ?_;clear hK K;refine jE ?_;rcases hx with⟨rfl,fD,sF⟩|⟨t',e,rfl,nF,iG⟩
      ·refine wE fun K hK=>?_;simp only[↓DN,Qa,Qb,Qc,Qd,Qe,Qf,Qg,Qh,reduceCtorEq,↓reduceIte,Na,Nb,Nc,Nk,Nf,Ng,Nh,Za,Zb,Zc,TT,g11,g7,g12,au,rm,MP,Hk,aJ,e2,bU,List.replicate_succ];intro t' nF;refine hK _ _ ?_;simp only[aq,aA,if_true,if_false];rw[fD,sF] at bX;exact bX _ _ (.sl 1 1 [.v (.int .i64 (2*u))] (.own t' 0)) g12 g7 g2 rfl (.inr ⟨t',0,rfl,by simp[AS.bA],aZ hle nF⟩) (AS.bn hle (aZ hle nF) 0)
      ·refine wE fun K hK=>?_;simp only[↓DN,Qa,Qb,Qc,Qd,Qe,Qf,Qg,Qh,reduceCtorEq,↓reduceIte,Na,Nb,Nc,Nk,Nf,Ng,Nh,Za,Zb,Zc,TT,g11,g7,g12,au,rm,MP,Hk,aJ,e2,nF,List.replicate_succ];refine⟨by omega,by omega,hK _ _ ?_⟩;simp only[aq,aA,if_true,if_false];exact bX _ _ (.sl 1 (SL.length+F.length+1) (CS++(F.map aJ++[.v (.int .i64 (2*u))])) (.own t' (e+1))) g12 g7 g2 rfl (.inr ⟨t',e+1,by rw[List.append_assoc];rfl,by simp[AS.bA],iG⟩) (AS.bn hle iG (e+1))
    ·refine jB (Ai @g12 (Ai @g7 (Ai @au (decide_eq_false rm)))) ?_;refine jF ?_;refine aC ?_;simp only[aA,aq,if_true];refine bq _ _ ?_;clear bq K3 dM K4;rw[List.take_of_length_le (by omega)] at hx;refine jB @g11 ?_;refine jI ?_;refine⟨_,_,AV.aE.refl _,AS.le.refl _,?_,hle⟩;rw[List.length_append,List.map_append,Nat.zero_add,List.nil_append];exact hx
  clear aU;by_cases hb:(nk=1∧((n/2:Nat):Int)∉skip)∨nk=2
  ·rw[if_pos hb] at ml;subst ml;have O8:∀(E:Env),E 1=.v (.int .i64 n)→E 2=.sl 1 skip.length (skip.map aJ) .any→E 7=.cN [.v (.int .i64 nk),.sl 1 nm.length (nm.map ae) .any,.v (.int .u64 ny),.sl 1 ll.length (ll.map ae) .any,.sl 1 nu.length (nu.map aJ) .any]→E 11=.v (.slice none 0 0)→E 46=.v (.bool true)→True:=fun _ _ _ _ _ _=>trivial;clear O8;by_cases k2:nk=2
   ·refine jB (Ai @g7 (lU k2)) ?_;refine jE ?_;refine wE fun K hK=>?_;simp only[↓DN,Qa,Qb,Qc,Qd,Qe,Qf,Qg,Qh,reduceCtorEq,↓reduceIte,Na,Nb,Nc,Nk,Nf,Ng,Nh,Za,Zb,Zc,TT,g1,List.replicate_succ];intro t' nF;exact hK _ _ (h2 _ _ (.sl 1 1 [.v (.int .i64 (n:Int))] (.own t' 0)) g2 g7 rfl (.inr ⟨t',0,rfl,by simp[AS.bA],nF⟩) (AS.bn (AS.le.refl _) nF 0))
   ·have hs:((n/2:Nat):Int)∉skip:=(hb.resolve_right k2).2;refine jS (Ai @g7 (Ai (ko k2) (Ai @g1 (Ai @g2 (Ai @lV (dL n (by omega))))))) fun K hK=>?_;refine ad (DE _ _) ?_;rintro r s1 ⟨rfl,rfl⟩;rw[decide_eq_false hs];refine jR hK ?_;clear hK K;refine jE ?_;refine wE fun K hK=>?_;simp only[↓DN,Qa,Qb,Qc,Qd,Qe,Qf,Qg,Qh,reduceCtorEq,↓reduceIte,Na,Nb,Nc,Nk,Nf,Ng,Nh,Za,Zb,Zc,TT,g1,List.replicate_succ];intro t' nF;exact hK _ _ (h2 _ _ (.sl 1 1 [.v (.int .i64 (n:Int))] (.own t' 0)) g2 g7 rfl (.inr ⟨t',0,rfl,by simp[AS.bA],nF⟩) (AS.bn (AS.le.refl _) nF 0))
  ·rw[if_neg hb] at ml;subst ml;have k2:nk≠2:=fun q=>hb (.inr q);have k1:nk=1:=(by omega);have hs:((n/2:Nat):Int)∈skip:=by
    by_cases q:((n/2:Nat):Int)∈skip
    ·exact q
    ·exact absurd (.inl ⟨k1,q⟩) hb
   refine jS (Ai @g7 (Ai (ko k2) (Ai @g1 (Ai @g2 (Ai @lV (dL n (by omega))))))) fun K hK=>?_;refine ad (DE _ _) ?_;rintro r s1 ⟨rfl,rfl⟩;rw[decide_eq_true hs];refine jR hK ?_;clear hK K;refine jF ?_;refine ab ?_;exact h2 _ _ (.v (.slice none 0 0)) g2 g7 rfl (cZ.nil _ _ _) (AS.le.refl _)
 clear Mq;cases DG:gi (n:Int) with
 |none=>
  rw[DG] at qL;refine jT fun K hK=>?_;refine ad (qL _) ?_;rintro r s1 ⟨rfl,rfl⟩;refine jM ?_;exact hK _ _ (h0 _ rfl rfl rfl)
 |some p=>
  rw[DG] at qL;refine jT fun K hK=>?_;refine ad (qL _) ?_;rintro r s1 ⟨rfl,rfl⟩;refine jM ?_;exact hK _ _ (h0 _ rfl rfl rfl)
theorem su(t:List ah)(ie:bf t)(skip:List Int)(J1:skip.length≤2^61):∀(l n:Nat),lv n=l→n<63→n+2^l≤t.length→
  ∀(s:AS),aj prog Γ 26 [aW t,.v (.int .i64 n),aG skip .any] s (PR s 0 [] (fG t skip l n)):=by
 intro l;induction l with
 |zero=>
  intro n hl hn hs s;have hi:n<t.length:=(by have :(2:Nat)^0=1:=rfl;omega);by_cases k0:(nd t n).kind=0
  ·have hN:=(jr k0).1 (ie.nd n);have dV:fG t skip 0 n=[]:=by
    simp only[fG];rw[hN];simp[kV,iR,ah.gT]
   rw[dV];refine aa func26 rfl ntmps26 results26 (by simp) ?_;have qL:=fun s=>dY (Γ:=Γ) (n:Int) (by omega) s;rw[vg hn hl] at qL;have cT:=dh hi;rw[hN] at cT;unfold aW;generalize aK ah.cells t=X at *
   unfold ah.gT ah.cells at cT;unfold aG at *
   simp only at cT;have cA:(0:Int)≤(n:Int):=(by omega);refine jA ?_;refine aX 7 (by decide) ?_;intro K hK;simp only[↓DM,bE,DX,Nz,↓DN,Qa,Qb,Qc,Qd,Qe,Qf,Qg,Qh,reduceCtorEq,↓reduceIte,Na,Nb,Nc,Nk,Nf,Ng,Nh,Za,Zb,Zc,TT,au,hi,cA,cT];intro o1 h1;refine hK _ _ o1 _ rfl h1 ?_;clear hK K h1;refine jK (qL _) ?_;rintro s1 rfl;refine wK fun K hK=>?_;refine jA ?_;refine jE ?_;refine wK fun K2 aU=>?_;refine jA ?_;refine jE ?_;refine jA ?_;refine jI ?_;exact jW ⟨cZ.nil _ _ _,AS.le.refl _⟩
  ·have dV:fG t skip 0 n=kV skip (nd t n) n++iR skip (nd t n).iA:=rfl;rw[dV];exact kA t ie skip J1 n hn hi k0 s
 |succ l ih=>
  intro n hl hn hs s;have wB:0<2^l:=Nat.two_pow_pos l;have PH:2^(l+1)=2^l+2^l:=(by rw[Nat.pow_succ];omega);have hi:n<t.length:=(by omega);by_cases k0:(nd t n).kind=0
  ·have dV:fG t skip (l+1) n=fG t skip l (n-2^l)++fG t skip l (n+2^l):=(by simp only[fG];exact if_pos k0);rw[dV];refine aa func26 rfl ntmps26 results26 (by simp) ?_;obtain⟨DG,UD,DS,Ci,Kj,UH⟩:=qc hn hl;have qL:=fun s=>dY (Γ:=Γ) (n:Int) (by omega) s;rw[DG] at qL;have ZQ:=iM ie skip l (n-2^l);have xgO:=iM ie skip l (n+2^l);have h1:=fun s=>ih (n-2^l) UD (by omega) (by omega) s;have h2:=fun s=>ih (n+2^l) DS Ci (by omega) s;have cT:=dh hi;clear ih dV;generalize fG t skip l (n-2^l)=L1 at *
   generalize fG t skip l (n+2^l)=L2 at *
   generalize nd t n=N at *
   unfold aW at *
   generalize aK ah.cells t=X at *
   obtain⟨nk,nm,ny,ll,nu⟩:=N;unfold ah.cells at cT;unfold aG at *
   simp only at k0;subst k0;have cA:(0:Int)≤(n:Int):=(by omega);refine jA ?_;refine aX 7 (by decide) ?_;intro K hK;simp only[↓DM,bE,DX,Nz,↓DN,Qa,Qb,Qc,Qd,Qe,Qf,Qg,Qh,reduceCtorEq,↓reduceIte,Na,Nb,Nc,Nk,Nf,Ng,Nh,Za,Zb,Zc,TT,au,hi,cA,cT];intro o1 xA;refine hK _ _ o1 _ rfl xA ?_;clear hK K xA;refine jK (qL _) ?_;rintro s1 rfl;refine wK fun K hK=>?_;refine jA ?_;refine jE ?_;refine wK fun K2 aU=>?_;refine jA ?_;refine jF ?_;refine ab ?_;refine aU _ _ ?_;clear aU K2;refine jQ fun K hK=>?_;refine ad (h1 _) ?_;rintro r s3 ⟨hx3,gH⟩;rw[Nat.zero_add,List.nil_append] at hx3;refine jM ?_;refine ad (h2 _) ?_;rintro r2 s4 ⟨ZR,fM⟩;rw[Nat.zero_add,List.nil_append] at ZR;have hle:=gH.trans fM;have hR:∀(r:AV)(s':AS),cZ 1 s1 s' r (L1.length+L2.length) (L1.map aJ++L2.map aJ)→s1.le s'→PR s1 0 [] (L1++L2) r s':=by
    intro r s' h1 h2;unfold PR;rw[Nat.zero_add,List.nil_append,List.length_append,List.map_append];exact⟨h1,h2⟩
   rcases hx3 with⟨rfl,fD,sF⟩|⟨t',e,rfl,nF,iG⟩
   ·rcases ZR with⟨rfl,hj0,hM0⟩|⟨t2,e2,rfl,PC,xdo⟩
    ·simp only[↓DM,bE,DX,Nz,↓DN,Qa,Qb,Qc,Qd,Qe,Qf,Qg,Qh,reduceCtorEq,↓reduceIte,Na,Nb,Nc,Nk,Nf,Ng,Nh,Za,Zb,Zc,TT,bU];refine hK _ _ ?_;clear hK K;refine jI ?_;refine⟨_,_,AV.aE.refl _,AS.le.refl _,hR _ _ ?_ hle⟩;rw[fD,hj0,sF,hM0];exact cZ.nil _ _ _
    ·simp only[↓DM,bE,DX,Nz,↓DN,Qa,Qb,Qc,Qd,Qe,Qf,Qg,Qh,reduceCtorEq,↓reduceIte,Na,Nb,Nc,Nk,Nf,Ng,Nh,Za,Zb,Zc,TT,bU];by_cases hz:L2.length=0
     ·rw[if_pos hz];refine hK _ _ ?_;clear hK K;refine jI ?_;refine⟨_,_,AV.aE.refl _,AS.le.refl _,hR _ _ ?_ hle⟩;rw[fD,hz,sF,List.eq_nil_of_length_eq_zero hz];exact cZ.nil _ _ _
     ·rw[if_neg hz];refine⟨by omega,by omega,?_⟩;intro t5 ht5;refine hK _ _ ?_;clear hK K;refine jI ?_;refine⟨_,_,AV.aE.refl _,AS.le.refl _,hR _ _ ?_ (AS.bn hle (aZ hle ht5) 0)⟩;rw[fD,sF,Nat.zero_add,List.nil_append];exact .inr ⟨t5,0,rfl,by simp[AS.bA],aZ hle ht5⟩
   ·rcases ZR with⟨rfl,hj0,hM0⟩|⟨t2,e2,rfl,PC,xdo⟩
    ·simp only[↓DM,bE,DX,Nz,↓DN,Qa,Qb,Qc,Qd,Qe,Qf,Qg,Qh,reduceCtorEq,↓reduceIte,Na,Nb,Nc,Nk,Nf,Ng,Nh,Za,Zb,Zc,TT,bU,fM.own _ _ nF];refine hK _ _ ?_;clear hK K;refine jI ?_;refine⟨_,_,AV.aE.refl _,AS.le.refl _,hR _ _ ?_ hle⟩;rw[hj0,hM0,Nat.add_zero,List.append_nil];exact .inr ⟨t',e,rfl,fM.own _ _ nF,iG⟩
    ·refine jN (fM.own _ _ nF) ?_;by_cases hz:L2.length=0
     ·rw[if_pos hz];refine hK _ _ ?_;clear hK K;refine jI ?_;refine⟨_,_,AV.aE.refl _,AS.le.refl _,hR _ _ ?_ hle⟩;rw[hz,List.eq_nil_of_length_eq_zero hz,List.map_nil,Nat.add_zero,List.append_nil];exact .inr ⟨t',e,rfl,fM.own _ _ nF,iG⟩
     ·rw[if_neg hz];refine⟨by omega,by omega,by simp[List.all_eq_true,aJ,AV.one],?_⟩;refine hK _ _ ?_;clear hK K;refine jI ?_;refine⟨_,_,AV.aE.refl _,AS.le.refl _,hR _ _ ?_ (AS.bn hle iG (e+1))⟩;exact .inr ⟨t',e+1,rfl,by simp[AS.bA],iG⟩
  ·have dV:fG t skip (l+1) n=kV skip (nd t n) n++iR skip (nd t n).iA:=(by simp only[fG];exact if_neg k0);rw[dV];exact kA t ie skip J1 n hn hi k0 s
def Dg(s s':AS)(r:AV)(l:List Int):Prop:=ni 1 s' r l.length (l.map aJ)∧(∀o,v8 r=some o→s.aw o=none)∧s.le s'
theorem zd(s:AS):aj prog Γ 191 [bU] s (fun r s'=>Dg s s' r []):=by
 refine aa func191 rfl ntmps191 results191 (by simp) ?_;unfold bU;refine jA ?_;refine wK fun K hK=>?_;refine jA ?_;refine jE ?_;refine jA ?_;refine jI ?_;exact⟨_,_,AV.aE.refl _,AS.le.refl _,.inl ⟨rfl,rfl,.inl rfl⟩,(fun o h=>by cases h),AS.le.refl _⟩
theorem AA(l:List Int)(s:AS)(hl:l.length≤2^42):aj prog Γ 191 [aG l .no] s (fun r s'=>Dg s s' r l):=by
 refine aa func191 rfl ntmps191 results191 (by simp) ?_;unfold aG;refine jA ?_;refine wK fun K hK=>?_;refine jB @and_false ?_;refine jF ?_;refine ab ?_;refine hK _ _ ?_;clear hK K;by_cases h0:l.length=0
 ·have uA:l=[]:=List.eq_nil_of_length_eq_zero h0;subst uA;refine jA ?_;refine jI ?_;exact⟨_,s,AV.aE.refl _,AS.le.refl s,.inl ⟨rfl,rfl,.inr (.inr rfl)⟩,(fun o h=>by cases h),AS.le.refl _⟩
 ·refine Ew rfl (by decide) ?_;intro ops;refine jM ?_;refine⟨_,fun G a w hr=>iz (n:=0) (m:=l.length) (cs:=[]) (ds:=l.map aJ) (e:=3) (z:=[.v (.int .i64 0)]) rfl underlying24 (by simp only[↓DN,Qa,Qb,Qc,Qd,Qe,Qf,Qg,Qh,reduceCtorEq,↓reduceIte,Na,Nb,Nc,Nk,Nf,Ng,Nh,Za,Zb,Zc,TT];try rfl) (by simp only[↓DN,Qa,Qb,Qc,Qd,Qe,Qf,Qg,Qh,reduceCtorEq,↓reduceIte,Na,Nb,Nc,Nk,Nf,Ng,Nh,Za,Zb,Zc,TT];try rfl) (by rw[T.c3];decide) (by rw[T.c3];rfl) (by simp only[↓DN,Qa,Qb,Qc,Qd,Qe,Qf,Qg,Qh,reduceCtorEq,↓reduceIte,Na,Nb,Nc,Nk,Nf,Ng,Nh,Za,Zb,Zc,TT,im,aN,aB,Nc,↓reduceIte]) h0 (by rw[T.b3];omega) (by omega) (by simp[List.all_eq_true,aJ,AV.one]) (by rw[T.c3];exact .inl ⟨rfl,rfl,.inr (.inr rfl)⟩) hr.eval hr.st,?_⟩;rw[T.c3];rintro r s1 ⟨ob,cap,rest,rfl,gB,B6,uS,qK,rfl⟩;refine jM ?_;refine jI ?_;have qK:s.aw ob=none:=by
   rcases qK with h|⟨_,h⟩
   ·exact h
   ·simp[aN,aB] at h
  rw[Nat.zero_add,Nat.mul_one] at *
  refine⟨_,_,AV.aE.refl _,AS.le.refl _,.inr ⟨ob,cap,rest,rfl,AS.af _ _ _,by simp,by rw[Nat.mul_one];exact uS,gB,B6⟩,fun o h=>?_,AS.aF (AS.le.refl s) qK _⟩;cases h;exact qK
theorem vr(l:List Int)(s:AS)(hl:l.length≤2^42):aj prog Γ 191 [aG l .any] s (fun r s'=>Dg s s' r l):=
 aj.anyS (post:=[]) (fun e _=>by obtain rfl:l=[]:=List.eq_nil_of_length_eq_zero e;exact zd s) (AA l s hl)
theorem vu(N:ah)(hm:N.name.length≤2^45)(hp:N.parent.length≤2^45)(hu:N.iA.length≤2^42)(s:AS):aj prog Γ 156 [.agg N.cells] s (fun r s'=>∃x,r=.agg (gq (N,x))∧Dg s s' x N.iA):=by
 refine aa func156 rfl ntmps156 results156 (by simp) ?_;unfold ah.cells;obtain⟨k,m,y,pa,u⟩:=N;simp only at hp hu hm;refine jS @aG.eq_1 fun K hK=>?_;intro o1 xA o2 qQ;have Oc:o2≠o1:=by
  rintro rfl;simp[AS.set] at qQ
 have Ae:=Oc.symm;have h20:s.aw o2=none:=(by simpa[AS.set,aB,Oc] using qQ);refine hK _ _ ?_;clear hK K;refine ef T.mixed [(o1,[.v (.int .i64 k),.sl 1 m.length (m.map ae) .any,.v (.int .u64 y),.sl 1 pa.length (pa.map ae) .any,.sl 1 u.length (u.map aJ) .any])] [2,5,8] [1,4,7] [10,12,14] (by kernel_rfl) (by simp only[aH,aL,and_true];simp[AS.set,aB,Ae,Oc]) ?_;intro K hK;simp only[↓bt,↓a8,dx,dt,aR,aV,aH,aL,List.any_cons,List.any_nil,List.contains_cons,List.contains_nil,Nat.reduceBEq,Bool.or_false,Bool.or_true,Bool.or_self,Bool.false_or,↓DN,Qa,Qb,Qc,Qd,Qe,Qf,Qg,Qh,reduceCtorEq,↓reduceIte,Na,Nb,Nc,Nk,Nf,Ng,Nh,Za,Zb,Zc,TT,Oc,Ae];refine ad (fZ m _ (by omega)) ?_;rintro r s' ⟨rfl,rfl⟩;simp only[↓cx,↓bW,bE,↓bt,↓a8,dx,dt,aR,aV,aH,aL,List.any_cons,List.any_nil,DX,Nat.reduceBEq,↓DN,Qa,Qb,Qc,Qd,Qe,Qf,Qg,Qh,reduceCtorEq,↓reduceIte,Na,Nb,Nc,Nk,Nf,Ng,Nh,Za,Zb,Zc,TT,Oc,Ae];refine ad (fZ pa _ hp) ?_;rintro r s' ⟨rfl,rfl⟩;simp only[↓cx,↓bW,bE,↓bt,↓a8,dx,dt,aR,aV,aH,aL,List.any_cons,List.any_nil,DX,Nat.reduceBEq,↓DN,Qa,Qb,Qc,Qd,Qe,Qf,Qg,Qh,reduceCtorEq,↓reduceIte,Na,Nb,Nc,Nk,Nf,Ng,Nh,Za,Zb,Zc,TT,Oc,Ae];refine ad (vr u _ hu) ?_;rintro r s' ⟨hb,lI,hle⟩;have q1:s'.aw o1=some [.v (.int .i64 k),.sl 1 m.length (m.map ae) .any,.v (.int .u64 y),.sl 1 pa.length (pa.map ae) .any,.sl 1 u.length (u.map aJ) .any]:=hle.aw _ _ (by simp[AS.set,aB,Ae]);have q2:s'.aw o2=some [.v (.int .i64 0),.v (.slice none 0 0),.v (.int .u64 0),.v (.slice none 0 0),.v (.slice none 0 0)]:=hle.aw _ _ (AS.af _ _ _);have hs:s.le s':=(AS.aF (AS.aF (AS.le.refl s) xA _) h20 _).trans hle;have n1:v8 r≠some o1:=(fun e=>by have:=lI o1 e;simp[AS.set,aB,Ae] at this);have n2:v8 r≠some o2:=(fun e=>by have:=lI o2 e;simp[AS.set] at this);have n0:∀o,v8 r=some o→s.aw o=none:=fun o e=>AS.le_none (AS.aF (AS.aF (AS.le.refl s) xA _) h20 _) (lI o e);have kG:r.one=true:=by
  rcases hb with⟨_,_,rfl|rfl|rfl⟩|⟨_,_,_,rfl,_⟩<;>rfl
 have hcell:r.cells=[r]:=by
  rcases hb with⟨_,_,rfl|rfl|rfl⟩|⟨_,_,_,rfl,_⟩<;>rfl
 unfold AV.cells at hcell;unfold AV.one at kG;simp only[↓cx,↓bW,bE,↓bt,↓a8,dx,dt,aR,aV,aH,aL,List.any_cons,List.any_nil,DX,Nat.reduceBEq,↓DN,Qa,Qb,Qc,Qd,Qe,Qf,Qg,Qh,reduceCtorEq,↓reduceIte,Na,Nb,Nc,Nk,Nf,Ng,Nh,Za,Zb,Zc,TT,q1,q2,hcell,Oc,Ae,aG,kG];refine hK _ _ ?_;clear hK K;refine jB (Ai @q1 (Ai @q2 (Ai @hcell (Ai @Oc (Ai @Ae (Ai @aG.eq_1 @kG)))))) ?_;refine a7 ?_;refine eQ (o:=o2) (off:=0) rfl (AS.af _ _ _) (by rw[T.Bl];decide) (by simp only[↓DN,Qa,Qb,Qc,Qd,Qe,Qf,Qg,Qh,reduceCtorEq,↓reduceIte,Na,Nb,Nc,Nk,Nf,Ng,Nh,Za,Zb,Zc,TT];rfl) ?_;refine⟨_,_,AV.aE.refl _,AS.le.refl _,r,rfl,?_,n0,?_⟩
 ·first |exact((((hb.m6 n1).m6 n1).m6 n1).m6 n2)|exact((hb.m6 n1).m6 n2)
 ·first |exact AS.aF (AS.aF (AS.aF (AS.aF hs xA _) xA _) xA _) h20 _|exact AS.aF (AS.aF hs xA _) h20 _
theorem J2(a b c d e:AV):nG 5 [a,b,c,d,e]=[a,b,c,d,e]:=rfl
theorem oP.leR{s0 s s':AS}{X:AV}{TS:List (ah×AV)}(h:oP s0 s X TS)(k:s.le s'):oP s0 s' X TS:=
 ⟨⟨fun p hp=>(h.xs.buf p hp).le k,h.xs.new,h.xs.sep⟩,h.le.trans k,h.row.le k,h.PJ,h.TG⟩
def lX(n:ah):Prop:=n.name.length≤2^45∧n.parent.length≤2^45∧n.iA.length≤2^42
theorem AB(t:List ah)(ht:t.length≤2^30)(hw:∀n∈t,lX n)(s:AS):aj prog Γ 109 [aW t] s (fun r s'=>∃TS,TS.map (·.1)=t∧oP s s' r TS):=by
 refine aa func109 rfl ntmps109 results109 (by simp) ?_
 have cT:=fun i(h:i<t.length)=>dh (t:=t) h
 have hnW:∀i(h:i<t.length),lX (nd t i):=fun i h=>by rw[mZ h];exact hw _ (List.getElem_mem h)
 have eo:∀i(h:i<t.length),t.take (i+1)=t.take i++[nd t i]:=fun i h=>by rw[List.take_succ_eq_append_getElem h,mZ h]
 unfold aW at *
 generalize aK ah.cells t=X at *
 refine jA ?_
 refine jA ?_
 refine wK fun K hK=>?_
 refine jA ?_
 refine ag ?_
 refine aD (fun E s2=>∃(i:Nat)(x:AV)(TS:List (ah×AV)),i≤t.length∧E 8=.v (.int .i64 i)∧E 7=.v (.int .i64 t.length)∧E 6=.sl 5 t.length X .any∧E 3=x∧TS.map (·.1)=t.take i∧oP s s2 x TS)
  (fun E _=>match E 8 with |.v (.int _ i)=>t.length-i.toNat|_=>0) ?_ ?_
 ·exact⟨0,_,[],Nat.zero_le _,by simp only[aB,Nc,↓reduceIte];rfl,by simp only[aB,Nc,↓reduceIte],by simp only[aB,Nc,↓reduceIte],by simp only[aB,Nc,↓reduceIte];rfl,rfl,oP.nil s⟩
 ·rintro E1 s2 ⟨i,x,TS,hi,g8,g7,g6,g3,hT,hx⟩ -
  by_cases aY:i<t.length
  ·refine jB (Ai @g8 (Ai @g7 (Ai @au (decide_eq_true aY)))) ?_
   refine wK fun K2 aU=>?_
   refine jE ?_
   refine ab ?_
   refine aU _ _ ?_;clear aU K2
   refine wK fun K3 bq=>?_
   refine ag ?_
   have iL:=cT i aY
   have hN:=hnW i aY
   have dK:=eo i aY
   generalize nd t i=N at *
   have Ks:TS.length=i:=by have:=congrArg List.length hT;simp at this;omega
   have cA:(0:Int)≤((i:Nat):Int):=by omega
   obtain⟨nk,nm,ny,ll,nu⟩:=N
   unfold ah.cells at iL
   simp only at iL
   refine aX 5 (by decide) ?_
   intro K hK
   simp only[↓DM,bE,DX,Nz,↓DN,Qa,Qb,Qc,Qd,Qe,Qf,Qg,Qh,reduceCtorEq,↓reduceIte,Na,Nb,Nc,Nk,Nf,Ng,Nh,Za,Zb,Zc,TT,g6,g8,au,aY,cA,iL,aG]
   intro o1 h1
   refine hK _ _ o1 _ (by simp only[aB,Nc,↓reduceIte]) h1 ?_
   clear hK K h1
   refine yh rfl (by decide) ?_
   intro ops
   simp only[↓DM,bE,DX,Nz,↓DN,Qa,Qb,Qc,Qd,Qe,Qf,Qg,Qh,reduceCtorEq,↓reduceIte,Na,Nb,Nc,Nk,Nf,Ng,Nh,Za,Zb,Zc,TT,g3]
   refine ad (vu ⟨nk,nm,ny,ll,nu⟩ hN.1 hN.2.1 hN.2.2 _) ?_
   rintro r s3 ⟨xn,rfl,hb,lI,gH⟩
   unfold gq at *
   simp only[↓DM,bE,DX,Nz,↓DN,Qa,Qb,Qc,Qd,Qe,Qf,Qg,Qh,reduceCtorEq,↓reduceIte,Na,Nb,Nc,Nk,Nf,Ng,Nh,Za,Zb,Zc,TT,g3,J2]
   have mu:s2.le s3:=gH
   have wL:ni 5 s3 x i (aK gq TS):=by
    have:=hx.row.le gH
    rwa [Ks] at this
   have kG:xn.one=true:=by
    rcases hb with⟨_,_,rfl|rfl|rfl⟩|⟨_,_,_,rfl,_⟩<;>rfl
   refine⟨_,fun G a w hr=>iz (n:=i) (m:=1) (cs:=aK gq TS) (ds:=gq (⟨nk,nm,ny,ll,nu⟩,xn)) (e:=54) rfl underlying22 (by simp only[↓DN,Qa,Qb,Qc,Qd,Qe,Qf,Qg,Qh,reduceCtorEq,↓reduceIte,Na,Nb,Nc,Nk,Nf,Ng,Nh,Za,Zb,Zc,TT];try rfl) T.z54 (by rw[T.Bl];decide) (by rw[T.Bl];rfl) (by rw[T.Bl];simp only[↓DN,Qa,Qb,Qc,Qd,Qe,Qf,Qg,Qh,reduceCtorEq,↓reduceIte,Na,Nb,Nc,Nk,Nf,Ng,Nh,Za,Zb,Zc,TT,im,aN,aB,Nc,↓reduceIte];rfl) (by decide) (by rw[T.VJ];omega) (by omega) (by simp only[gq,List.all_cons,List.all_nil,kG];rfl) (by rw[T.Bl];exact wL) hr.eval hr.st,?_⟩
   rw[T.Bl]
   rintro r s4 ⟨ob,cap,rest,rfl,gB,B6,uS,qK,rfl⟩
   have xdp:s3.aw ob=none∨∃rR,x=.ig ob 0 5 TS.length rR:=by
    rw[Ks];exact qK
   have R7:=(oP.leR hx gH).push (p:=(⟨nk,nm,ny,ll,nu⟩,xn)) (ob:=ob) (cap:=cap) (rest:=rest) hb
    (fun o ho=>⟨AS.le_none hx.le (lI o ho),(fun q hq e=>by obtain⟨ds,hd⟩:=(hx.xs.buf q hq).some e;rw[lI o ho] at hd;cases hd),(fun e=>by obtain⟨ds,hd⟩:=hx.row.some e;rw[lI o ho] at hd;cases hd)⟩)
    xdp (by rw[Ks];exact gB) B6 (by rw[Ks];exact uS)
   rw[Ks,List.append_assoc] at R7
   refine jV @g3 bq ?_;clear bq K3
   refine jD (Ai @g8 (bd i (by omega))) ?_
   refine⟨⟨i+1,.ig ob 0 5 (i+1) cap,TS++[(⟨nk,nm,ny,ll,nu⟩,xn)],by omega,by simp only[aB,Nc,↓reduceIte],by simp only[aB,g7,Nc,↓reduceIte],by simp only[aB,g6,Nc,↓reduceIte],by simp only[aB,Nc,↓reduceIte],by rw[List.map_append,hT,dK];rfl,R7⟩,?_⟩
   simp only[g8,aB,↓reduceIte]
   omega
  ·refine jB (Ai @g8 (Ai @g7 (Ai @au (decide_eq_false aY)))) ?_
   refine wK fun K2 aU=>?_
   refine jF ?_
   refine aC ?_
   simp only[aA,aq,if_true]
   refine hK _ _ ?_;clear hK aU K2 K
   obtain rfl:i=t.length:=by omega
   refine jB @g3 ?_
   refine jI ?_
   exact⟨_,_,AV.aE.refl _,AS.le.refl _,TS,by rw[hT,List.take_length],hx⟩
end Go.Proofs.YtbiefppedlodiaaGreatDoor
namespace Go.AM
open Go
def ZS(L:Nat)(t:List ah):Prop:=Fit L∧t.length=2*L-1∧
    (∀i,i<2*L-1→(nd t i).right∧((nd t i).kind=0∨((nd t i).kind=1↔i%2=0))∧∀u∈(nd t i).iA,(lo i:Int)≤u∧u≤(hi i:Int)∧0≤u∧u<(L:Int)∧(nd t (2*u.toNat)).kind=1)∧
    (∀a b,a<b→b<L→(nd t (2*a)).kind=1→(nd t (2*b)).kind=1→(nd t (2*b)).name≠(nd t (2*a)).name)
theorem bf.xcn{t:List ah}(h:bf t):ZS (aI t) t∧(aI t=1∨∃j,aI t/2≤j∧j<aI t∧(Go.AM.nd t (2*j)).kind=1):=by
  obtain⟨h1,h2⟩:=h.len;obtain⟨k1,k2,k3⟩:=(yv h2 h1).1 h;exact⟨⟨h2,h1,k1,k2⟩,k3⟩
theorem yP{t:List ah}{name:List UInt8}(h:¬0≤oo t name 0){L:Nat}(hL:Fit L)(hlen:t.length=2*L-1){j:Nat}(hj:j<L)(hk:(nd t (2*j)).kind=1):(nd t (2*j)).name≠name:=by
  intro e;have hl:=Hc hL hlen;have hb:=hL.le;have h1:=vf (fun j=>decide (et t j∧(nd t (2*j)).name=name)) (ev t-0) 0;have h2:decide (0≤oo t name 0)=true:=h1.2 ⟨j,Nat.zero_le _,by unfold ev;omega,decide_eq_true ⟨(mf hl _).2 ⟨hj,hk⟩,e⟩⟩;exact h (of_decide_eq_true h2)
def ZT(key:Nat):Prop:=2≤(key:Int)∧(key:Int)≤2305843009213693949
instance(key:Nat):Decidable (ZT key):=by unfold ZT;infer_instance
open Go Go.RowKit
variable{P:Program}{Γ:Nat→List AV}{s:AS}
theorem Hv{α:Type}{c:α→List AV}{l:List α}{u:Nat}(h:u<l.length):aK c l=aK c (l.take u)++c l[u]++aK c (l.drop (u+1)):=by
  have e:l=l.take u++l[u]::l.drop (u+1):=(by rw[List.getElem_cons_drop,List.take_append_drop]);have e2:aK c l=aK c (l.take u++l[u]::l.drop (u+1)):=(by rw[←e]);rw[e2];simp only[aK,List.map_append,List.map_cons,List.flatten_append,List.flatten_cons,List.append_assoc]
theorem tR{α:Type}{c:α→List AV}{k:Nat}(hk:∀a,(c a).length=k){l:List α}{u:Nat}(h:u<l.length)(a:α)(rest:List AV):bp (aK c l++rest) (u*k) (c a)=aK c (l.set u a)++rest:=by
  have hl:(aK c (l.take u)).length=u*k:=(by rw[cj hk,List.length_take];congr 1;omega);have e2:aK c (l.set u a)=aK c (l.take u)++c a++aK c (l.drop (u+1)):=by
    rw[List.set_eq_take_append_cons_drop,if_pos h];simp[aK]
  rw[e2,Hv h];rw[Mac.m9 _ _ _ (by simp[hk,hl])];have a1:(aK c (l.take u)++c l[u]++aK c (l.drop (u+1))++rest).take (u*k)=aK c (l.take u):=by
    rw[List.append_assoc,List.append_assoc,←hl,List.take_left]
  have a2:(aK c (l.take u)++c l[u]++aK c (l.drop (u+1))++rest).drop (u*k+(c a).length)=aK c (l.drop (u+1))++rest:=by
    have e3:u*k+(c a).length=(aK c (l.take u)++c l[u]).length:=(by rw[List.length_append,hl,hk,hk]);rw[e3,List.append_assoc _ _ rest,List.drop_left]
  rw[a1,a2];simp
end Go.AM
namespace Go.Proofs.YtbiefppedlodiaaGreatDoor
open Go Go.AM Go.Proofs Tryz
variable{Γ:Nat→List AV}
instance(t:List ah):Decidable (eI t):=by unfold eI;infer_instance
def vd(n:ah):Prop:=n.name.length≤40∧n.parent.length≤60∧n.iA.length≤40
def MQ(t:List ah):Prop:=t.length≤63∧∀n∈t,vd n
instance(n:ah):Decidable (vd n):=by unfold vd;infer_instance
instance(t:List ah):Decidable (MQ t):=by unfold MQ;infer_instance
end Go.Proofs.YtbiefppedlodiaaGreatDoor
namespace Go.AM
open Go
theorem ed.tree{gD:List AV}(h:ed (.slice 5 (.struct (.cons Cg (.cons Bb (.cons (.int .u64) (.cons Bb (.cons (.slice 1 Cg) .nil))))))) gD):∃t:List ah,gD=[aW t]∧∀n∈t,n.key<2^64:=by
  obtain⟨els,rfl,_,bS⟩:=ed.rows h;have key:∀els:List (List AV),(∀el∈els,el.length=5∧ed (.struct (.cons Cg (.cons Bb (.cons (.int .u64) (.cons Bb (.cons (.slice 1 Cg) .nil)))))) el)→∃t:List ah,els=t.map ah.cells∧∀n∈t,n.key<2^64:=by
    intro els;induction els with
    |nil=>intro _;exact⟨[],rfl,fun n hn=>by cases hn⟩
    |cons e els ih=>
      intro h;obtain⟨t,rfl,h2⟩:=ih (fun el sD=>h el (by simp[sD]));obtain⟨_,h1⟩:=h e (by simp);obtain⟨N,rfl,hN⟩:=ed.node h1;refine⟨N::t,rfl,fun n hn=>?_⟩;rcases List.mem_cons.1 hn with rfl|hn
      · exact hN
      · exact h2 n hn
  obtain⟨t,rfl,h2⟩:=key els bS;refine⟨t,?_,h2⟩;unfold aW aK;rw[List.length_map]
def Ql(k:Nat)(l:List UInt8):List UInt8:=be k l.length++l
def l9.body(p:l9):List UInt8:=if p.kind=1 then Ql 1 p.name++(be 8 p.key++be 8 p.init) else if p.kind=2 then be 1 p.leaf.toNat++be 8 p.key else be 1 p.leaf.toNat
def l9.text(p:l9):List UInt8:=be 1 p.kind.toNat++p.body
def eH.ZU(x:eH):List UInt8:=be 8 x.kc++Ql 2 x.text
def MR{α:Type}(f:α→List UInt8)(l:List α):List UInt8:=(l.map f).flatten
def cy.text(x:cy):List UInt8:=be 8 x.key++(be 1 x.dy.length++MR eH.ZU x.dy)
def dN.text(x:dN):List UInt8:=be 8 x.key++(Ql 1 x.parent++(be 1 x.steps.length++MR cy.text x.steps))
def cR.tail(c:cR):List UInt8:=if c.xi then be 1 1++c.path.text else be 1 0
def cR.content(c:cR):List UInt8:=
  be 1 1++(Ql 1 c.group++(be 8 c.iB.toNat++(be 1 c.CT.toNat++(be 1 c.props.length++(MR l9.text c.props++c.tail)))))
def cR.text(c:cR):List UInt8:=c.content++(Ql 1 c.CU++Ql 1 c.Ha)
def eH.fits(p:eH):Prop:=p.text.length≤100
def cy.fits(p:cy):Prop:=(∀x∈p.dy,x.fits)∧True∧p.dy.length≤32
def dN.fits(p:dN):Prop:=(∀x∈p.steps,x.fits)∧True∧p.parent.length≤200∧p.steps.length≤20
end Go.AM
namespace Go.AM
namespace Kdf
variable(aO info:List UInt8)
def nE:Nat→List UInt8
  |0=>[]
  |i+1=>Mac.tag aO (nE i++info++[UInt8.ofNat (i+1)])
def row:Nat→List UInt8
  |0=>[]
  |i+1=>row i++nE aO info (i+1)
theorem uo(i:Nat):(nE aO info (i+1)).length=32:=Mac.mK _ _
theorem cj:∀i:Nat,(row aO info i).length=32*i
  |0=>rfl
  |i+1=>by rw[row,List.length_append,cj i,uo];omega
def rounds(n:Nat):Nat:=(n+31)/32
def expand(n:Nat):List UInt8:=(row aO info (rounds n)).take n
theorem vv(n:Nat):n≤32*rounds n:=by unfold rounds;omega
theorem gU(n:Nat):(expand aO info n).length=n:=by
  rw[expand,List.length_take,cj];have:=vv n;omega
theorem due(n i:Nat):32*i<n↔i<rounds n:=by unfold rounds;omega
def ok(n:Int):Bool:=decide (0≤n)&&decide (n≤8160)
def get(n:Int):List UInt8:=if ok n=true then expand aO info n.toNat else[]
end Kdf
namespace Kdf
def DH:List UInt8:=[109,108,115,32]
def fits(l c:List UInt8)(n:Int):Bool:=decide (l.length≤251)&&decide (c.length≤65535)&&decide (0≤n)&&decide (n≤8160)
def text(l c:List UInt8)(n:Nat):List UInt8:=be 2 n++(be 1 (DH++l).length++(DH++l))++(be 2 c.length++c)
def label(aO l c:List UInt8)(n:Int):List UInt8:=if fits l c n=true then expand aO (text l c n.toNat) n.toNat else[]
def derive(aO l:List UInt8):List UInt8:=label aO (l.take 251) [] 32
def U6(l c:List UInt8)(n:Int):List UInt8×Bool:=dz 2 c (dz 1 (DH++l) (bm 2 n ([],false)))
theorem Qm{k n:Nat}{st:List UInt8×Bool}(h:st.2=true):(ei k n st).2=true:=by rw[ei,if_pos h];exact h
theorem J3{k:Nat}{n:Int}{st:List UInt8×Bool}(h:st.2=true):(bm k n st).2=true:=by
  unfold bm;split
  · exact Qm h
  · rfl
theorem IG{m:List UInt8}{st:List UInt8×Bool}(h:st.2=true):(ej m st).2=true:=by rw[ej,if_pos h];exact h
theorem ze{k:Nat}{m:List UInt8}{st:List UInt8×Bool}(h:st.2=true):(dz k m st).2=true:=IG (J3 h)
theorem zf{k:Nat}{n:Int}{st:List UInt8×Bool}(h:¬(0≤n∧n<2^(8*k))):(bm k n st).2=true:=by rw[bm,if_neg h]
theorem BM{k:Nat}{m:List UInt8}{st:List UInt8×Bool}(h:¬(m.length:Int)<2^(8*k)):(dz k m st).2=true:=IG (zf fun h'=>h h'.2)
theorem MS(l c:List UInt8)(n:Int)(h0:0≤n)(h1:n≤65535)(hl:l.length≤251)(hc:c.length≤65535):U6 l c n=(text l c n.toNat,false):=by
  obtain⟨m,rfl⟩:∃m:Nat,n=(m:Int):=⟨n.toNat,by omega⟩;have hm:(DH++l).length=4+l.length:=(by simp[DH];omega);unfold U6;rw[th (by omega),vN (by rw[hm];omega),vN (by omega)];simp[text]
theorem Qn(l c:List UInt8)(n:Int)(h:¬(0≤n∧n≤65535∧l.length≤251∧c.length≤65535)):(U6 l c n).2=true:=by
  have hm:(DH++l).length=4+l.length:=(by simp[DH];omega);unfold U6;by_cases h0:0≤n∧n<2^(8*2)
  · by_cases h1:((DH++l).length:Int)<2^(8*1)
    · refine BM fun h2=>h ?_;simp only[Nat.reduceMul] at h0 h1 h2;refine⟨h0.1,by omega,by omega,by omega⟩
    · exact ze (BM h1)
  · exact ze (ze (zf h0))
theorem nj(k:Nat)(m:List UInt8)(st:List UInt8×Bool):(dz k m st).1.length≤st.1.length+k+m.length:=by
  have:=eP k (m.length:Int) st;unfold dz ej;split
  · omega
  · simp only[List.length_append];omega
end Kdf
namespace Sch
def T3:List UInt8:=[101,112,111,99,104]
def MT:List UInt8:=[119,101,108,99,111,109,101]
def J4:List UInt8:=[101,120,112,111,114,116,101,114]
def MU:List UInt8:=[99,111,110,102,105,114,109]
def Qo:List UInt8:=[109,101,109,98,101,114,115,104,105,112]
def ZV:List UInt8:=[105,110,105,116]
def main(j:List UInt8):List UInt8:=Mac.tag j (List.replicate 32 0)
def iB(j c:List UInt8):List UInt8:=Kdf.label (main j) T3 c 32
def of(j c:List UInt8):List (List UInt8):=[j,Kdf.derive (main j) MT,Kdf.derive (iB j c) J4,Kdf.derive (iB j c) MU,Kdf.derive (iB j c) Qo,Kdf.derive (iB j c) ZV]
end Sch
namespace Aes
def Od(a:UInt8):UInt8:=(a <<< (1:UInt8)) ^^^ ((27:UInt8) &&& ((0:UInt8)-(a >>> (7:UInt8))))
def gm:Nat→UInt8→UInt8→UInt8→UInt8
  |0,o,_,_=>o
  |f+1,o,a,b=>gm f (o ^^^ (a &&& ((0:UInt8)-(b &&& 1)))) (Od a) (b >>> 1)
theorem IH:∀(f:Nat)(o a:UInt8),gm f o a 0=o
  |0,o,a=>rfl
  |f+1,o,a=>by
    have e:o ^^^ (a &&& ((0:UInt8)-((0:UInt8) &&& 1)))=o:=by
      have :(0:UInt8)-((0:UInt8) &&& 1)=0:=(by decide);rw[this];simp
    rw[gm,e,show(0:UInt8) >>> 1=0 from by decide];exact IH f o _
def pw:Nat→UInt8→UInt8→Nat→UInt8
  |0,o,_,_=>o
  |f+1,o,a,n=>pw f (if n%2=1 then gm 8 0 o a else o) (gm 8 0 a a) (n/2)
theorem II:∀(f:Nat)(o a:UInt8),pw f o a 0=o
  |0,_,_=>rfl
  |f+1,o,a=>by rw[pw];exact II f o _
def inv(a:UInt8):UInt8:=pw 8 1 a 254
def ZW(x:UInt8)(i:Nat):UInt8:=UInt8.ofNat (x.toNat*2^i) ||| UInt8.ofNat (x.toNat/2^(8-i))
def Hw(x:UInt8):Nat→UInt8
  |0=>99 ^^^ x
  |k+1=>Hw x k ^^^ ZW x (k+1)
def box(c:UInt8):UInt8:=Hw (inv c) 4
def sb:List UInt8:=[99,124,119,123,242,107,111,197,48,1,103,43,254,215,171,118,202,130,201,125,250,89,71,240,173,212,162,175,156,164,114,192,183,253,147,38,54,63,247,204,52,165,229,241,113,216,49,21,4,199,35,195,24,150,5,154,7,18,128,226,235,39,178,117,9,131,44,26,27,110,90,160,82,59,214,179,41,227,47,132,83,209,0,237,32,252,177,91,106,203,190,57,74,76,88,207,208,239,170,251,67,77,51,133,69,249,2,127,80,60,159,168,81,163,64,143,146,157,56,245,188,182,218,33,16,255,243,210,205,12,19,236,95,151,68,23,196,167,126,61,100,93,25,115,96,129,79,220,34,42,144,136,70,238,184,20,222,94,11,219,224,50,58,10,73,6,36,92,194,211,172,98,145,149,228,121,231,200,55,109,141,213,78,169,108,86,244,234,101,122,174,8,186,120,37,46,28,166,180,198,232,221,116,31,75,189,139,138,112,62,181,102,72,3,246,14,97,53,87,185,134,193,29,158,225,248,152,17,105,217,142,148,155,30,135,233,206,85,40,223,140,161,137,13,191,230,66,104,65,153,45,15,176,84,187,22]
def S(x:UInt8):UInt8:=sb.getD x.toNat 0
theorem sv:sb.length=256:=by decide+kernel
theorem T4:∀i,i<256→box (UInt8.ofNat i)=sb.getD i 0:=by decide+kernel
def Kt:Nat→UInt8
  |0=>1
  |r+1=>Od (Kt r)
def nx(k:List UInt8)(p:UInt8):List UInt8:=
  match k with
  |[k0,k1,k2,k3,k4,k5,k6,k7,k8,k9,Ib,R8,JD,Qp,Km,GI]=>
    let a0:=(k0 ^^^ S Qp) ^^^ p
    let a1:=k1 ^^^ S Km
    let a2:=k2 ^^^ S GI
    let a3:=k3 ^^^ S JD
    let b0:=k4 ^^^ a0
    let b1:=k5 ^^^ a1
    let b2:=k6 ^^^ a2
    let b3:=k7 ^^^ a3
    let c0:=k8 ^^^ b0
    let c1:=k9 ^^^ b1
    let c2:=Ib ^^^ b2
    let c3:=R8 ^^^ b3
    [a0,a1,a2,a3,b0,b1,b2,b3,c0,c1,c2,c3,JD ^^^ c0,Qp ^^^ c1,Km ^^^ c2,GI ^^^ c3]
  |_=>[]
def kr(key:List UInt8):Nat→List UInt8
  |0=>key
  |r+1=>nx (kr key r) (Kt r)
theorem Dh{α:Type}{l:List α}(h:l.length=16):∃k0 k1 k2 k3 k4 k5 k6 k7 k8 k9 Ib R8 JD Qp Km GI,l=[k0,k1,k2,k3,k4,k5,k6,k7,k8,k9,Ib,R8,JD,Qp,Km,GI]:=by
  match l,h with
  |[k0,k1,k2,k3,k4,k5,k6,k7,k8,k9,Ib,R8,JD,Qp,Km,GI],_=>exact⟨k0,k1,k2,k3,k4,k5,k6,k7,k8,k9,Ib,R8,JD,Qp,Km,GI,rfl⟩
theorem T5{k:List UInt8}(h:k.length=16)(p:UInt8):(nx k p).length=16:=by
  obtain⟨k0,k1,k2,k3,k4,k5,k6,k7,k8,k9,Ib,R8,JD,Qp,Km,GI,rfl⟩:=Dh h;rfl
theorem sw{key:List UInt8}(h:key.length=16):∀r,(kr key r).length=16
  |0=>h
  |r+1=>T5 (sw h r) _
theorem T6{k:List UInt8}(h:k.length=16)(p:UInt8)(j:Nat)(hj:j<4):(nx k p).getD j 0=if j=0 then(k.getD j 0 ^^^ S (k.getD (12+(j+1)%4) 0)) ^^^ p else k.getD j 0 ^^^ S (k.getD (12+(j+1)%4) 0):=by
  obtain⟨k0,k1,k2,k3,k4,k5,k6,k7,k8,k9,Ib,R8,JD,Qp,Km,GI,rfl⟩:=Dh h;rcases(show j=0∨j=1∨j=2∨j=3 by omega) with rfl|rfl|rfl|rfl<;>rfl
theorem Qq{k:List UInt8}(h:k.length=16)(p:UInt8)(j:Nat)(h4:4≤j)(hj:j<16):(nx k p).getD j 0=k.getD j 0 ^^^ (nx k p).getD (j-4) 0:=by
  obtain⟨k0,k1,k2,k3,k4,k5,k6,k7,k8,k9,Ib,R8,JD,Qp,Km,GI,rfl⟩:=Dh h;rcases(show j=4∨j=5∨j=6∨j=7∨j=8∨j=9∨j=10∨j=11∨j=12∨j=13∨j=14∨j=15 by omega) with rfl|rfl|rfl|rfl|rfl|rfl|rfl|rfl|rfl|rfl|rfl|rfl<;>rfl
def ak(key:List UInt8)(n:Nat):UInt8:=(kr key (n/16)).getD (n%16) 0
theorem T7{key:List UInt8}(h:key.length=16)(r j:Nat)(hj:j<4):ak key (16*(r+1)+j)=if j=0 then(ak key (16*r+j) ^^^ S (ak key (16*r+(12+(j+1)%4)))) ^^^ Kt r else ak key (16*r+j) ^^^ S (ak key (16*r+(12+(j+1)%4))):=by
  have e1:(16*(r+1)+j)/16=r+1:=(by omega);have e2:(16*(r+1)+j)%16=j:=(by omega);have e3:(16*r+j)/16=r:=(by omega);have e4:(16*r+j)%16=j:=(by omega);have e5:(16*r+(12+(j+1)%4))/16=r:=(by omega);have e6:(16*r+(12+(j+1)%4))%16=12+(j+1)%4:=(by omega);simp only[ak,e1,e2,e3,e4,e5,e6];exact T6 (sw h r) (Kt r) j hj
theorem Qr{key:List UInt8}(h:key.length=16)(r j:Nat)(h4:4≤j)(hj:j<16):ak key (16*(r+1)+j)=ak key (16*r+j) ^^^ ak key (16*(r+1)+(j-4)):=by
  have e1:(16*(r+1)+j)/16=r+1:=(by omega);have e2:(16*(r+1)+j)%16=j:=(by omega);have e3:(16*r+j)/16=r:=(by omega);have e4:(16*r+j)%16=j:=(by omega);have e5:(16*(r+1)+(j-4))/16=r+1:=(by omega);have e6:(16*(r+1)+(j-4))%16=j-4:=(by omega);simp only[ak,e1,e2,e3,e4,e5,e6];exact Qq (sw h r) (Kt r) j h4 hj
theorem T8{key:List UInt8}(n:Nat)(hn:n<16):ak key n=key.getD n 0:=by
  rw[ak,Nat.div_eq_of_lt hn,Nat.mod_eq_of_lt hn];rfl
def sh(b:List UInt8)(n:Nat):UInt8:=S (b.getD (4*((n/4+n%4)%4)+n%4) 0)
def mx(c:Nat→UInt8)(i:Nat):UInt8:=(((Od (c i) ^^^ Od (c ((i+1)%4))) ^^^ c ((i+1)%4)) ^^^ c ((i+2)%4)) ^^^ c ((i+3)%4)
def IJ(b:List UInt8)(last:Bool):List UInt8:=(List.range 16).map fun n=>if last then sh b n else mx (fun i=>sh b (4*(n/4)+i)) (n%4)
def add(b k:List UInt8):List UInt8:=(List.range 16).map fun n=>b.getD n 0 ^^^ k.getD n 0
def state(key b:List UInt8):Nat→List UInt8
  |0=>add b (kr key 0)
  |r+1=>add (IJ (state key b r) (r+1==10)) (kr key (r+1))
def block(key b:List UInt8):List UInt8:=state key b 10
theorem Di(b:List UInt8)(l:Bool):(IJ b l).length=16:=by simp[IJ]
theorem Dj(b k:List UInt8):(add b k).length=16:=by simp[add]
theorem nB(key b:List UInt8):∀r,(state key b r).length=16
  |0=>Dj _ _
  |r+1=>Dj _ _
theorem BN(key b:List UInt8):(block key b).length=16:=nB key b 10
theorem vw{α:Type}(f:Nat→α)(N n:Nat)(d:α)(h:n<N):((List.range N).map f).getD n d=f n:=by
  simp[List.getD_eq_getElem?_getD,h]
theorem IK(b:List UInt8)(l:Bool)(n:Nat)(h:n<16):(IJ b l).getD n 0=if l then sh b n else mx (fun i=>sh b (4*(n/4)+i)) (n%4):=vw _ _ _ _ h
def first(ax:List UInt8):Nat:=gX (ax.drop 12)
def FA(ax:List UInt8)(i:Nat):List UInt8:=ax.take 12++be 4 ((first ax+i)%4294967296)
def IL(key ax:List UInt8)(p:Nat):UInt8:=(block (key.take 16) (FA ax (p/16))).getD (p%16) 0
def mask(key ax text:List UInt8):List UInt8:=(List.range text.length).map fun p=>text.getD p 0 ^^^ IL key ax p
theorem nC(key ax text:List UInt8):(mask key ax text).length=text.length:=by simp[mask]
theorem zg(key ax text:List UInt8)(p:Nat)(h:p<text.length):(mask key ax text).getD p 0=text.getD p 0 ^^^ IL key ax p:=vw _ _ _ _ h
theorem J5(key ax text:List UInt8):mask key ax (mask key ax text)=text:=by
  apply List.ext_getElem
  · simp[mask]
  · intro p h1 h2;have hp:p<text.length:=h2;have e:=zg key ax (mask key ax text) p (by rw[nC];exact hp);rw[zg key ax text p hp,UInt8.xor_assoc,UInt8.xor_self,UInt8.xor_zero] at e;rw[List.getD_eq_getElem?_getD,List.getElem?_eq_getElem h1,List.getD_eq_getElem?_getD,List.getElem?_eq_getElem h2] at e;simpa using e
def tag(key ax beside masked:List UInt8):List UInt8:=(Mac.tag (key.drop 16) (be 4 beside.length++(beside++(ax++masked)))).take 16
theorem mK(key ax beside masked:List UInt8):(tag key ax beside masked).length=16:=by simp[tag,Mac.mK]
def dW(key ax beside text:List UInt8):List UInt8:=mask key ax text++tag key ax beside (mask key ax text)
end Aes
namespace Vault
def zh:List UInt8:=[110,111,110,99,101]
def ctx(g:List UInt8)(e:Nat):List UInt8:=be 1 g.length++g++be 8 e
def k0:List UInt8:=[169,244,63,67,64,52,17,249,117,86,100,57,122,167,125,1,230,91,103,131,115,144,199,68,248,159,166,218,250,248,1,114,135,15,162,208,108,252,211,18,83,148,90,178,179,251,67,14]
def n3:List UInt8:=[8,190,219,198,217,21,206,227,25,6,89,27,186,224,186,54]
def n4:List UInt8:=[184,102,163,253,77,158,128,5,108,65,104,250,253,115,180,138]
def m3:List UInt8:=[247,169,26,226,24,129,224,169,173,123,5,148,71,154,82,74,108,148,179,118,179,215,27,211,244,97,172,107,233,136,76,169]
def t3:List UInt8:=[8,206,240,108,85,27,1,138,119,108,80,208,57,159,143,149]
end Vault
open Go
def xdq(l:List (List UInt8)):AV:=.sl 1 l.length (l.map fun b=>al b .any) .any
def MV(l:List (List UInt8)):Prop:=l.length≤12∧∀b∈l,b.length≤4000
instance(l:List (List UInt8)):Decidable (MV l):=by unfold MV;infer_instance
structure ZX where
  kind:Int
  leaf:Int
  name:List UInt8
  key:Nat
def ZX.cells(a:ZX):List AV:=[.v (.int .i64 a.kind),.v (.int .i64 a.leaf),al a.name .any,.v (.int .u64 a.key)]
def xdr(t T:List ah)(f:Int)(k:Nat):Prop:=eI T∧(f=0→bf T∨(T=t∧k=3))
structure IM where
  group:List UInt8
  iB:Int
  tree:List ah
  Qs:List UInt8
  inter:List UInt8
  deriving DecidableEq
def IM.gT:IM:=⟨[],0,[],[],[]⟩
def IM.cells(s:IM):List AV:=[al s.group .any,.v (.int .i64 s.iB),aW s.tree,al s.Qs .any,al s.inter .any]
def IM.right(s:IM):Prop:=(1≤s.group.length∧s.group.length≤16)∧0≤s.iB∧s.iB≤1048576∧bf s.tree∧s.Qs.length=32∧s.inter.length=32
instance(s:IM):Decidable s.right:=by unfold IM.right;infer_instance
def IM.wf(s:IM):Prop:=eI s.tree
def IM.text(s:IM):List UInt8:=Ql 1 s.group++(be 8 s.iB.toNat++(Mw s.tree++(Ql 1 s.Qs++(Ql 1 s.inter++[]))))
abbrev xbw:Ty:=.slice 5 (.struct (.cons Cg (.cons Bb (.cons (.int .u64) (.cons Bb (.cons (.slice 1 Cg) .nil))))))
end Go.AM
namespace Go.Proofs.YtbiefppedlodiaaGreatDoor
open Go Go.AM Go.Proofs Tryz
variable{Γ:Nat→List AV}
theorem Qt(l:List UInt8)(i:Nat)(h:i<l.length):(ByteArray.mk l.toArray)[i]? =some l[i]:=by
  rw[getElem?_pos (ByteArray.mk l.toArray) i (by simpa[dO] using h)];rfl
theorem lU{a b:Int}(h:a=b):(a==b)=true:=by simpa using h
theorem ko{a b:Int}(h:a≠b):(a==b)=false:=by simpa using h
theorem OZ{a:Nat}(h:a=0):((a:Int)==0)=true:=by subst h;rfl
theorem Ic{a:Nat}(h:a≠0):((a:Int)==0)=false:=by simpa using h
theorem YB{a k:Nat}(h:a=k):((a:Int)==(k:Int))=true:=by subst h;simp
theorem UN{a b:Int}(h:a≠b):(a != b)=true:=by simpa using h
theorem eqI{a b:Int}(h:a=b):(a != b)=false:=by simpa using h
theorem bd(i:Nat)(h:i<9223372036854775807):dQ .i64 (i:Int) 1=((i+1:Nat):Int):=by
  rw[ec (by omega)];rfl
def cR.fits(c:cR):Prop:=c.props.length≤9223372036854775807∧c.path.steps.length≤9223372036854775807∧∀x∈c.path.steps,x.dy.length≤9223372036854775807
end Go.Proofs.YtbiefppedlodiaaGreatDoor
namespace Go.AM
open Go
def xi4(s0 s:AS)(x:AV)(l:List Int):Prop:=x=.sl 1 l.length (l.map aJ) .new∨∃t e,x=.sl 1 l.length (l.map aJ) (.own t e)∧s.own t=some e∧s0.own t=none
end Go.AM
namespace Go.Proofs.YtbiefppedlodiaaGreatDoor
open Go Go.AM Go.Proofs Tryz
variable{Γ:Nat→List AV}
def MW(S:IM):Prop:=(S.tree.length≤31∧S.group.length≤40∧S.Qs.length≤60∧S.inter.length≤60)∧∀n∈S.tree,vd n
instance(S:IM):Decidable (MW S):=by unfold MW;infer_instance
def cR.octets(c:cR):List UInt8:=if c.right then c.text else[]
def MX:List UInt8:=List.replicate 32 0
def c0:cR:=⟨[103],0,0,[],false,⟨0,[],[]⟩,MX,MX⟩
theorem RA{a b:Nat}(h:a≠b):((a:Int) != (b:Int))=true:=by simp only[bne_iff_ne,ne_eq];omega
theorem RB{a b:Nat}(h:a=b):((a:Int) != (b:Int))=false:=by subst h;simp
end Go.Proofs.YtbiefppedlodiaaGreatDoor
namespace Go.AM
theorem zi{α:Type}{c:Prop}[Decidable c]{x:α}{y:Option α}(h:(if c then some x else y)=none):¬c∧y=none:=by
  split at h
  · cases h
  · exact⟨by assumption,h⟩
def zj(P:Int→Bool)(acc:List Int)(f:Int):List Int:=if P f=true∧f∉acc then acc++[f] else acc
def je(P:Int→Bool)(S:List Int):List Int:=S.foldl (zj P) []
def EI(P:Int→Bool)(fresh:List Int)(n:Nat):List Int:=((List.range n).map fun k=>((k:Nat):Int)).filter fun x=>decide (x∈fresh)&&P x
theorem J6(P:Int→Bool)(S:List Int):(je P S).length≤S.length:=by
  have :∀(S acc:List Int),(S.foldl (zj P) acc).length≤acc.length+S.length:=by
    intro S;induction S with
    |nil=>simp
    |cons f S ih=>
      intro acc;rw[List.foldl_cons];have h1:=ih (zj P acc f);have h2:(zj P acc f).length≤acc.length+1:=(by unfold zj;split <;>simp);simp only[List.length_cons];omega
  simpa[je] using this S []
theorem Hy(P:Int→Bool)(S:List Int)(f:Int):je P (S++[f])=zj P (je P S) f:=by simp[je]
theorem zk(P:Int→Bool):∀(S acc:List Int),S.Pairwise (·≤·)→acc.Pairwise (· < ·)→(∀a∈acc,∀b∈S,a≤b)→
    (S.foldl (zj P) acc).Pairwise (· < ·)∧∀x,x∈S.foldl (zj P) acc↔x∈acc∨(x∈S∧P x=true)
  |[],acc,_,h2,_=>by simp[h2]
  |f::S,acc,h1,h2,h3=>by
    rw[List.pairwise_cons] at h1;rw[List.foldl_cons];by_cases hc:P f=true∧f∉acc
    · have e:zj P acc f=acc++[f]:=if_pos hc;rw[e];obtain⟨i1,i2⟩:=zk P S (acc++[f]) h1.2 (by
        rw[List.pairwise_append];refine⟨h2,by simp,fun a ha b hb=>?_⟩;simp only[List.mem_singleton] at hb;subst hb;have:=h3 a ha b (by simp);have :a≠b:=fun e=>hc.2 (e ▸ ha);omega) (by
        intro a ha b hb;simp only[List.mem_append,List.mem_singleton] at ha;rcases ha with ha|rfl
        · exact h3 a ha b (by simp[hb])
        · exact h1.1 b hb)
      refine⟨i1,fun x=>?_⟩;rw[i2];simp only[List.mem_append,List.mem_cons,List.not_mem_nil,or_false];constructor
      · rintro((a|rfl)|⟨a,b⟩)
        · exact .inl a
        · exact .inr ⟨.inl rfl,hc.1⟩
        · exact .inr ⟨.inr a,b⟩
      · rintro(a|⟨rfl|a,b⟩)
        · exact .inl (.inl a)
        · exact .inl (.inr rfl)
        · exact .inr ⟨a,b⟩
    · have e:zj P acc f=acc:=if_neg hc;rw[e];obtain⟨i1,i2⟩:=zk P S acc h1.2 h2 (fun a ha b hb=>h3 a ha b (by simp[hb]));refine⟨i1,fun x=>?_⟩;rw[i2];simp only[List.mem_cons];constructor
      · rintro(a|⟨a,b⟩)
        · exact .inl a
        · exact .inr ⟨.inr a,b⟩
      · rintro(a|⟨rfl|a,b⟩)
        · exact .inl a
        · by_cases hm:x∈acc
          · exact .inl hm
          · exact absurd ⟨b,hm⟩ hc
        · exact .inr ⟨a,b⟩
theorem MY(P:Int→Bool)(S:List Int)(h:S.Pairwise (·≤·)):(je P S).Pairwise (· < ·)∧∀x,x∈je P S↔x∈S∧P x=true:=by
  have:=zk P S [] h (by simp) (by simp);simpa[je] using this
theorem uq:∀{a b:List Int},a.Pairwise (· < ·)→b.Pairwise (· < ·)→(∀x,x∈a↔x∈b)→a=b
  |[],b,_,_,h=>by
    cases b with
    |nil=>rfl
    |cons y b=>exact absurd ((h y).2 (by simp)) (by simp)
  |x::a,[],_,_,h=>absurd ((h x).1 (by simp)) (by simp)
  |x::a,y::b,h1,h2,h=>by
    rw[List.pairwise_cons] at h1 h2;have VE:x=y:=by
      have hx:=(h x).1 (by simp);have hy:=(h y).2 (by simp);simp only[List.mem_cons] at hx hy;rcases hx with rfl|hx
      · rfl
      · rcases hy with rfl|hy
        · rfl
        · have:=h1.1 y hy;have:=h2.1 x hx;omega
    subst VE;rw[uq h1.2 h2.2 fun z=>?_];have:=h z;simp only[List.mem_cons] at this;constructor
    · intro hz;rcases this.1 (.inr hz) with rfl|k
      · have:=h1.1 z hz;omega
      · exact k
    · intro hz;rcases this.2 (.inr hz) with rfl|k
      · have:=h2.1 z hz;omega
      · exact k
theorem Qu(P:Int→Bool)(fresh:List Int)(n:Nat)(hP:∀x,P x=true→0≤x∧x<(n:Int)):je P (fresh.mergeSort fun x y=>decide (x≤y))=EI P fresh n:=by
  have hs:(fresh.mergeSort fun x y=>decide (x≤y)).Pairwise (·≤·):=by
    have:=List.pairwise_mergeSort (le:=fun x y:Int=>decide (x≤y)) (by intro a b c;simp;omega) (by intro a b;simp;omega) fresh;simpa using this
  obtain⟨h1,h2⟩:=MY P _ hs;refine uq h1 ?_ fun x=>?_
  · unfold EI;refine List.Pairwise.filter _ ?_;rw[List.pairwise_map];exact(List.pairwise_lt_range).imp fun h=>by omega
  · rw[h2];unfold EI;simp only[List.mem_filter,List.mem_map,List.mem_range,Bool.and_eq_true,decide_eq_true_eq,List.mem_mergeSort];constructor
    · rintro⟨a,b⟩;have:=hP x b;exact⟨⟨x.toNat,by omega,by omega⟩,a,b⟩
    · rintro⟨-,a,b⟩;exact⟨a,b⟩
end Go.AM
namespace Go.Proofs.YtbiefppedlodiaaGreatDoor
open Go Go.AM Go.Proofs Tryz
variable{Γ:Nat→List AV}
def FB(s0 s:AS)(r:AV)(T:List ah):Prop:=∃O cap rest,r=.ig O 0 5 T.length cap∧s.aw O=some (aK ah.cells T++rest)∧T.length≤cap∧s0.aw O=none∧s0.le s
theorem Dk(t:List ah)(h0:t.length≠0)(ht:t.length≤2^30)(hw:∀n∈t,lX n)(s:AS):aj prog Γ 109 [aW t] s (fun r s'=>FB s s' r t):=by
  refine aj.settle (AB t ht hw s) ?_;rintro r s' ⟨TS,hT,hO⟩;have hl:TS.length=t.length:=(by rw[←hT,List.length_map]);rcases hO.row with⟨h1,_,_⟩|⟨O,cap,rest,rfl,hOb,gw,uS,B3,B6⟩
  · exact absurd (hl ▸ h1) h0
  · obtain⟨s1,k1,k2,k3⟩:=JP (Γ:=Γ) (hO.PJ O rfl) (.ig O 0 5 TS.length cap) TS [] s' hO.xs hO.le (hO.TG O rfl) (by simpa[aK] using hOb);rw[List.nil_append,hT] at k2;rw[hl] at k1 B3;exact⟨_,_,by rw[hl];exact k1,O,cap,rest,rfl,k2,B3,hO.PJ O rfl,k3⟩
theorem AD(l:List Int)(hl:l.length≤2^40)(s:AS):aj prog Γ 111 [.qE 160 [.cN [.sl 1 l.length (l.map aJ) .any]]] s (fun r s'=>r=aG (l.mergeSort fun x y=>decide (x≤y)) .any∧s'=s):=by
  have Kk:=Cz (Γ:=Γ) (l.map aJ) l.length (by simp) hl;rw[List.map_map] at Kk;refine aj.forget (aj.settle (CZ (by kernel_rfl) Kk hl s) ?_ (R:=fun r s'=>r=aG (l.mergeSort fun x y=>decide (x≤y)) .any∧s.le s')) fun r s' ⟨h1,h2⟩=>⟨s,h2,h1,rfl⟩;rintro r s' ⟨qK,sW,lI,hle⟩;rcases qK with⟨h0,_,_⟩|⟨o,cap,rest,rfl,ho,gw,uS,B3,B6⟩
  · have e:(l.mergeSort fun x y=>decide (x≤y))=[]:=List.eq_nil_of_length_eq_zero h0;rw[sW e,e];exact⟨_,_,b8.aE AV.aM,rfl,hle⟩
  · exact⟨_,_,b8.outer ho (by simp),rfl,AS.qj hle (lI o rfl)⟩
end Go.Proofs.YtbiefppedlodiaaGreatDoor
namespace Go.AM
theorem MZ(P:Int→Bool)(fresh:List Int)(n:Nat):(EI P fresh n).length≤n:=by
  unfold EI;refine Nat.le_trans (List.length_filter_le _ _) ?_;simp
theorem yD{T:List ah}{u:Nat}(hu:u<T.length)(k:Nat)(p:List UInt8)(rest:List AV):
    ((aK ah.cells T++rest).set (u*5+2) (.v (.int .u64 k))).set (u*5+3) (al p .any)=aK ah.cells (T.set u {nd T u with key:=k,parent:=p})++rest:=by
  have h0:=tR (c:=ah.cells) (k:=5) (fun n=>rfl) hu (nd T u) rest;have h1:=tR (c:=ah.cells) (k:=5) (fun n=>rfl) hu {nd T u with key:=k,parent:=p} rest;have hs:T.set u (nd T u)=T:=(by rw[mZ hu];exact List.set_getElem_self hu);rw[hs] at h0;rw[←h1];generalize aK ah.cells T++rest=R at h0;generalize nd T u=N at *
  obtain⟨a,b,c,d,e⟩:=N;simp only[ah.cells,bp] at h0⊢;apply List.ext_getElem?;intro i;have hi:=congrArg (fun l=>l[i]?) h0;simp only[List.getElem?_set,List.length_set,Nat.add_assoc,Nat.reduceAdd] at hi⊢;by_cases e3:u*5+3=i
  · have e4:¬u*5+4=i:=(by omega);simp only[if_pos e3,if_neg e4]
  · by_cases e2:u*5+2=i
    · have e4:¬u*5+4=i:=(by omega);simp only[if_neg e3,if_pos e2,if_neg e4]
    · simp only[if_neg e3,if_neg e2] at hi⊢;exact hi.symm
end Go.AM
