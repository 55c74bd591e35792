/- Contracts of functions, each walked once; each theorem states its conditions. -/
import Derived.Test.YtbiefppedlodiaaGreatDoorAMp6
import Derived.Test.YtbiefppedlodiaaGreatDoorW1
import Derived.Test.YtbiefppedlodiaaGreatDoorW4
import Derived.Test.YtbiefppedlodiaaGreatDoorW3
import Derived.Test.YtbiefppedlodiaaGreatDoorW2
set_option linter.unusedSimpArgs false
set_option linter.unusedVariables false
open Nat renaming reduceLT → Na, reduceLeDiff → Nb, reduceEqDiff → Nc, reduceAdd → Nk, reduceMul → Nf, reducePow → Ng, reduceSub → Nh, reduceBEq → Nz
open Int renaming reduceLT → Za, reduceLE → Zb, reduceToNat → Zc
open And renaming intro → Ai
open Go.AM renaming ashift → Qa, aconv → Qb, aindexAddr → Qc, aindex → Qd, aslice → Qe, abuiltin → Qf, awp_reg_seq → wS, awp_reg_end → wE, awp_seq_k → wK, awp_cond_k → wC
open Go.AM.AV renaming cells → Qg, one → Qh
set_option maxRecDepth 100000
set_option maxHeartbeats 8000000
namespace Go.Proofs.YtbiefppedlodiaaGreatDoor
open Go Go.AM Go.Proofs Tryz
variable{Γ:Nat→List AV}
theorem rR:((0:Nat):Int)=0:=rfl
theorem Hr(n:Nat)(hn:n≤2^45)(s:AS):
  aj prog Γ 216 [.v (.slice none 0 0),.v (.int .i64 (n:Int))] s (fun r s'=>dS s [] r s'):=by
 refine aa func216 rfl ntmps216 results216 (by simp) ?_;have zG:¬((n:Int)<0):=(by omega);have p6:dr .i64 (n:Int) (dr .i64 ((0:Nat):Int) ((0:Nat):Int))=(n:Int):=by
  rw[show dr .i64 ((0:Nat):Int) ((0:Nat):Int)=0 from by decide,bO (by omega)];omega
 refine jA ?_;refine wK fun K hK=>?_;refine jB (decide_eq_false zG) ?_;refine jF ?_;refine ab ?_;refine hK _ _ ?_;clear hK K;refine wK fun K hK=>?_;refine jB @p6 ?_;have yF:∀(E:Env)(r:AV)(s1:AS),E 0=r→dS s [] r s1→K E s1:=by
  intro E r s1 h0 h1;refine hK _ _ ?_;clear hK K;refine jB @h0 ?_;refine jI ?_;exact⟨_,_,AV.aE.refl _,AS.le.refl _,h1⟩
 clear hK;by_cases h0:n=0
 ·subst h0;refine jA ?_;refine wC fun X Y hX hY=>?_;simp only[UP,DF,Nc,↓reduceIte,DB];refine⟨fun h=>absurd h (by decide),fun _=>hY ?_⟩;clear hX hY X Y;refine ab ?_;exact yF _ _ _ (by simp only[aB,bx,Nc,↓reduceIte];rfl) (dS.nil s)
 ·have hgt:(0:Int)<(n:Int):=(by omega);refine jB (decide_eq_true hgt) ?_;refine jE ?_;refine ye (k:=.i64) (e:=5) (z:=[.v (.int .u8 0)]) rfl rfl rfl (by decide) rfl rfl rfl (by decide) underlying23 underlying23 underlying3 ⟨T.z5,by rw[T.c5];decide,by rw[T.c5];rfl⟩ T.c5 ?_;intro ops;refine jP @rR ?_;refine⟨n,rfl,h0,by omega,by omega,fun t v ht=>?_⟩;exact yF _ (.sl 1 0 [] (.own t 0)) _ rfl ⟨AS.bn (AS.le.refl s) ht 0,.inr ⟨t,0,ht,AS.j0 _ _ _,rfl⟩⟩
def gu(ls:List (List UInt8)):List AV:=ls.map fun l=>al l .any
theorem y8(ls:List (List UInt8))(i:Nat)(h:i<ls.length):List.take 1 (List.drop i (gu ls))=[al ls[i] .any]:=by
 have :(gu ls)[i]? =some (al ls[i] .any):=(by simp[gu,h]);rw[drop_cons _ _ _ this];rfl
theorem BI(ls:List (List UInt8))(i:Nat)(h:i<ls.length):(ls.take (i+1)).flatten=(ls.take i).flatten++ls[i]:=by
 rw[List.take_succ_eq_append_getElem h,List.flatten_append,List.flatten_cons,List.flatten_nil,List.append_nil]
theorem IC(ls:List (List UInt8))(i:Nat):(ls.take i).flatten.length≤ls.flatten.length:=by
 have :ls.flatten=(ls.take i).flatten++(ls.drop i).flatten:=(by rw[←List.flatten_append,List.take_append_drop]);rw[this,List.length_append];omega
theorem ly(ls:List (List UInt8))(sp:Sp)(hn:ls.length≤2^45)(hl:ls.flatten.length≤2^45)(s:AS):
  aj prog Γ 186 [.sl 1 ls.length (gu ls) sp] s (fun r s'=>dS s ls.flatten r s'):=by
 refine aa func186 rfl ntmps186 results186 (by simp) ?_;refine jA ?_;refine jA ?_;refine wK fun K hK=>?_;refine jA ?_;refine ag ?_;refine aD (fun E s1=>∃i:Nat,i≤ls.length∧E 0=.sl 1 ls.length (gu ls) sp∧E 3=.v (.int .i64 ((ls.take i).flatten.length:Nat))∧E 9=.sl 1 ls.length (gu ls) sp∧E 10=.v (.int .i64 ls.length)∧E 11=.v (.int .i64 i)∧s1=s)
  (fun E _=>match E 11 with |.v (.int _ i)=>ls.length-i.toNat|_=>0) ?_ ?_
 ·exact⟨0,Nat.zero_le _,by simp[aB,bx],by simp[aB],by simp[aB,bx],by simp[aB],by simp[aB],rfl⟩
 ·rintro E1 s1 ⟨i,hi,e0,e3,e9,U1,wM,rfl⟩ -
  by_cases aY:i<ls.length
  ·have bJ:(i:Int)<(ls.length:Int):=(by omega);have cA:(0:Int)≤(i:Int):=(by omega);have oZ:=IC ls (i+1);have uj:=BI ls i aY;have fA:=y8 ls i aY;generalize ls[i]=l at *
   refine jB (Ai @U1 (Ai @wM (decide_eq_true bJ))) ?_;refine wK fun K2 aU=>?_;refine jE ?_;refine ab ?_;refine aU _ _ ?_;clear aU K2;refine wK fun K3 bq=>?_;refine ag ?_;refine jB (Ai @e9 (Ai @wM (Ai @cA (Ai @bJ @fA)))) ?_;have fa:dQ .i64 ((ls.take i).flatten.length:Int) (l.length:Int)=((ls.take (i+1)).flatten.length:Int):=by
    rw[uj,List.length_append];rw[uj,List.length_append] at oZ;exact gg _ _ (by omega)
   refine jB (Ai @e3 @fa) ?_;have zG:¬(((ls.take (i+1)).flatten.length:Int)<0):=(by omega);refine jB (decide_eq_false zG) ?_;refine jF ?_;refine ab ?_;simp only[aA,aq,if_true,if_false];refine bq _ _ ?_;clear bq K3;refine jD (Ai @wM (cS i (by omega))) ?_;refine⟨⟨i+1,by omega,e0,rfl,e9,U1,rfl,rfl⟩,?_⟩;simp only[wM,aB,↓reduceIte];omega
  ·have bJ:¬(i:Int)<(ls.length:Int):=(by omega);obtain rfl:i=ls.length:=(by omega);rw[List.take_of_length_le (Nat.le_refl _)] at e3;refine jB (Ai @U1 (Ai @wM (decide_eq_false bJ))) ?_;refine wK fun K2 aU=>?_;refine jF ?_;refine aC ?_;simp only[aA,aq,if_true];clear aU K2;refine hK _ _ ?_;clear hK K;refine jS @e3 fun K hK=>?_;refine ad (Hr ls.flatten.length hl _) ?_;intro r sa bB;refine jR hK ?_;clear hK K;refine wK fun K hK=>?_;refine jB @e0 ?_;refine ag ?_;refine aD (fun E s2=>∃i:Nat,i≤ls.length∧E 25=.sl 1 ls.length (gu ls) sp∧E 26=.v (.int .i64 ls.length)∧E 27=.v (.int .i64 i)∧dS s1 (ls.take i).flatten (E 6) s2)
    (fun E _=>match E 27 with |.v (.int _ i)=>ls.length-i.toNat|_=>0) ?_ ?_
   ·exact⟨0,Nat.zero_le _,rfl,rfl,rfl,by simpa only[aB,Nc,↓reduceIte,List.take_zero,List.flatten_nil] using bB⟩
   ·rintro E2 s2 ⟨i,hi,U3,UK,ZD,sr⟩ -
    by_cases aY:i<ls.length
    ·have bJ:(i:Int)<(ls.length:Int):=(by omega);have cA:(0:Int)≤(i:Int):=(by omega);have oZ:=IC ls (i+1);have uj:=BI ls i aY;have fA:=y8 ls i aY;generalize ls[i]=l at *
     refine jB (Ai @UK (Ai @ZD (decide_eq_true bJ))) ?_;refine wK fun K2 aU=>?_;refine jE ?_;refine ab ?_;refine aU _ _ ?_;clear aU K2;refine wK fun K3 bq=>?_;refine ag ?_;refine jB (Ai @U3 (Ai @ZD (Ai @cA (Ai @bJ @fA)))) ?_;generalize uk:E2 6=r6 at sr;refine jU @uk fun K hK=>?_;have hb:(ls.take i).flatten.length+l.length≤2^45:=by
      rw[uj,List.length_append] at oZ;omega
     refine dk sr rfl rfl T.c5 T.b5 hb ?_;intro r2 s3 RX;rw[←uj] at RX;refine hK _ _ ?_;clear hK K;simp only[aA,aq,if_true,if_false];refine bq _ _ ?_;clear bq K3;refine jD (Ai @ZD (cS i (by omega))) ?_;refine⟨⟨i+1,by omega,U3,UK,rfl,by simpa only[aB,Nc,↓reduceIte] using RX⟩,?_⟩;simp only[ZD,aB,↓reduceIte];omega
    ·have bJ:¬(i:Int)<(ls.length:Int):=(by omega);obtain rfl:i=ls.length:=(by omega);rw[List.take_of_length_le (Nat.le_refl _)] at sr;refine jB (Ai @UK (Ai @ZD (decide_eq_false bJ))) ?_;refine wK fun K2 aU=>?_;refine jF ?_;refine aC ?_;simp only[aA,aq,if_true];clear aU K2;refine hK _ _ ?_;clear hK K;generalize uk:E2 6=r6 at sr;refine jB @uk ?_;refine jI ?_;exact⟨_,_,AV.aE.refl _,AS.le.refl _,sr⟩
theorem cv{s s':AS}{l:List UInt8}{r:AV}(h:dS s l r s')(h0:l≠[]):∃t e,r=.sl 1 l.length (l.map ae) (.own t e):=by
 rcases h.2 with⟨rfl,_⟩|⟨t,e,_,_,rfl⟩
 ·exact absurd rfl h0
 ·exact⟨t,e,rfl⟩
theorem ID(a:Nat):iW (a:Int) 64=((a%64:Nat):Int):=lP a 64
theorem Ft(n j:Nat)(h:j<8):(Sha.wQ n)[j]? =some (UInt8.ofNat (8*n/2^(8*(7-j)))):=by
 have :j=0∨j=1∨j=2∨j=3∨j=4∨j=5∨j=6∨j=7:=(by omega);rcases this with rfl|rfl|rfl|rfl|rfl|rfl|rfl|rfl<;>simp[Sha.wQ]
theorem Fu{α:Type}(l:List α)(j:Nat)(x:α)(h:l[j]? =some x):l.take (j+1)=l.take j++[x]:=by
 obtain⟨h1,h2⟩:=List.getElem?_eq_some_iff.1 h;rw[List.take_succ_eq_append_getElem h1,h2]
theorem xk(x:Nat):ae (UInt8.ofNat x)=.v (.int .u8 (cE .u8 (x:Int))):=by
 rw[gN rfl];simp[ae,IntKind.bits]
theorem P5(n j:Nat)(hj:j<8)(hn:n≤2^45):eU .i64 (ia .i64 8 (n:Int)) (ia .i64 8 ((7-j:Nat):Int))=((8*n/2^(8*(7-j)):Nat):Int):=by
 rw[dJ (by omega),dJ (by omega),show(8:Int)*(n:Int)=((8*n:Nat):Int) from by omega,show(8:Int)*((7-j:Nat):Int)=((8*(7-j):Nat):Int) from by omega,ir];simp only[IntKind.bits];rw[Nat.min_eq_left (by omega)]
theorem RY{a b:Int}(h:a≠b):(a != b)=true:=by simpa using h
theorem RZ{a b:Int}(h:a=b):(a != b)=false:=by simpa using h
theorem P6(n:Nat)(hn:n≤2^45)(j:Nat)(hj:j<8):¬(ia .i64 8 ((7-j:Nat):Int)<0):=by
 rw[dJ (by omega)];omega
theorem Dc(l:List UInt8)(hl:l.length≤2^44)(s s1:AS)(r0:AV)(h:dS s l r0 s1):
  aj prog Γ 199 [r0] s1 (fun r s'=>dS s (Sha.pad l) r s'):=by
 refine aa func199 rfl ntmps199 results199 (by simp) ?_;refine jA ?_;refine wS fun K hK=>?_;have hc:∀E:Env,E 0=r0→E 3=.v (.int .i64 l.length)→K E s1:=by
  intro E e0 e3;refine hK _ _ ?_;clear hK K;refine wS fun K hK=>?_;simp only[↓DN,Qa,Qb,Qc,Qd,Qe,Qf,Qg,Qh,reduceCtorEq,↓reduceIte,Na,Nb,Nc,Nk,Nf,Ng,Nh,Za,Zb,Zc,TT,e0,List.replicate_one,Nat.lt_irrefl];refine dk (ds:=[128]) h rfl rfl T.c5 T.b5 (by simp;omega) ?_;intro r2 s2 h2;refine hK _ _ ?_;clear hK K;refine wK fun K hK=>?_;refine ag ?_;refine aD (fun E s2=>∃k:Nat,k≤Sha.gL l.length∧E 3=.v (.int .i64 l.length)∧dS s (l++[128]++List.replicate k 0) (E 0) s2)
   (fun E s2=>match E 0 with |.sl _ n _ _=>l.length+1+Sha.gL l.length-n|_=>0) ?_ ?_
  ·exact⟨0,Nat.zero_le _,e3,by simpa only[aB,↓reduceIte,List.replicate_zero,List.append_nil] using h2⟩
  ·rintro E2 s3 ⟨k,hk,g3,sr⟩ -
   refine wK fun K2 aU=>?_;obtain⟨t,e,g0⟩:=cv sr (by simp);have hlen:(l++[128]++List.replicate k 0).length=l.length+1+k:=(by simp;omega);generalize hL:l++[128]++List.replicate k 0=L at *
   have hLn:L≠[]:=(by intro e';rw[e'] at hlen;simp only[List.length_nil] at hlen;omega);by_cases tF:k=Sha.gL l.length
   ·have h56:L.length%64=56:=(by rw[hlen,tF,Sha.gL];omega);have hb:=RZ (show((L.length%64:Nat):Int)=56 by omega);refine jB (Ai @g0 (Ai @ID @hb)) ?_;refine wC fun X Y hX hY=>?_;refine jP (Ai @DB @hb) ?_;refine hY ?_;clear hX hY X Y;refine aC ?_;simp only[aA,aq,if_true];clear aU K2;refine hK _ _ ?_;clear hK K;rw[←g0];refine wK fun K hK=>?_;refine jA ?_;refine ag ?_;refine aD (fun E s2=>∃j:Nat,j≤8∧E 3=.v (.int .i64 l.length)∧E 4=.v (.int .i64 ((7:Int)-j))∧dS s (L++(Sha.wQ l.length).take j) (E 0) s2)
     (fun E s2=>match E 4 with |.v (.int _ i)=>(i+1).toNat|_=>0) ?_ ?_
    ·exact⟨0,by omega,g3,rfl,by simpa only[aB,Nc,↓reduceIte,List.take_zero,List.append_nil] using sr⟩
    ·rintro E3 s4 ⟨j,hj,f3,f4,wR⟩ -
     refine wK fun K2 aU=>?_;obtain⟨t',e',f0⟩:=cv wR (by simp[hLn]);by_cases kg:j<8
     ·have cA:(0:Int)≤(7:Int)-j:=(by omega);refine jB (Ai @f4 (decide_eq_true cA)) ?_;refine jE ?_;refine ab ?_;refine aU _ _ ?_;clear aU K2;refine wK fun K3 bq=>?_;refine ag ?_;have e7:(7:Int)-j=((7-j:Nat):Int):=(by omega);rw[e7] at f4;have wB:=P6 l.length (by omega) j kg;have hsh:=P5 l.length j kg (by omega);generalize uk:E3 0=r6 at wR;refine wE fun K hK=>?_;simp only[↓DN,Qa,Qb,Qc,Qd,Qe,Qf,Qg,Qh,reduceCtorEq,↓reduceIte,Na,Nb,Nc,Nk,Nf,Ng,Nh,Za,Zb,Zc,TT,uk,f3,f4,wB,hsh,List.replicate_one,Nat.lt_irrefl];refine dk (ds:=[UInt8.ofNat (8*l.length/2^(8*(7-j)))]) wR rfl (by rw[List.map_cons,xk];rfl) T.c5 T.b5 (by rw[List.length_append,List.length_take,hlen];unfold Sha.gL at hk;simp only[List.length_cons,List.length_nil];omega) ?_;intro r2 s5 h5;rw[List.append_assoc,←Fu _ _ _ (Ft l.length j kg)] at h5;refine hK _ _ ?_;clear hK K;simp only[aA,aq,if_true,if_false];refine bq _ _ ?_;clear bq K3;have xda:dr .i64 ((7-j:Nat):Int) 1=(7:Int)-((j+1:Nat):Int):=by
       rw[bO (by omega)];omega
      refine jD (Ai @f4 @xda) ?_;refine⟨⟨j+1,by omega,f3,rfl,by simpa only[aB,Nc,↓reduceIte] using h5⟩,?_⟩;simp only[f4,aB,↓reduceIte];omega
     ·have cA:¬(0:Int)≤(7:Int)-j:=(by omega);obtain rfl:j=8:=(by omega);refine jB (Ai @f4 (decide_eq_false cA)) ?_;refine jF ?_;refine aC ?_;simp only[aA,aq,if_true];clear aU K2;refine hK _ _ ?_;clear hK K;have qG:L++(Sha.wQ l.length).take 8=Sha.pad l:=by
       rw[←hL,tF,Sha.pad,show(Sha.wQ l.length).take 8=Sha.wQ l.length from rfl];simp
      rw[qG] at wR;generalize uk:E3 0=r6 at wR;refine jB @uk ?_;refine jI ?_;exact⟨_,_,AV.aE.refl _,AS.le.refl _,wR⟩
   ·have h56:L.length%64≠56:=(by rw[hlen];unfold Sha.gL at hk tF;omega);have hb:=RY (show((L.length%64:Nat):Int)≠56 by omega);refine jB (Ai @g0 (Ai @ID @hb)) ?_;refine wC fun X Y hX hY=>?_;refine jP (Ai @DB @hb) ?_;refine hX ?_;clear hX hY X Y;refine ab ?_;refine aU _ _ ?_;clear aU K2;refine ag ?_;generalize uk:E2 0=r6 at sr;refine wE fun K hK=>?_;simp only[↓DN,Qa,Qb,Qc,Qd,Qe,Qf,Qg,Qh,reduceCtorEq,↓reduceIte,Na,Nb,Nc,Nk,Nf,Ng,Nh,Za,Zb,Zc,TT,uk,List.replicate_one,Nat.lt_irrefl];refine dk (ds:=[0]) sr rfl rfl T.c5 T.b5 (by rw[hlen];unfold Sha.gL at hk;simp;omega) ?_;intro r2 s2 h2;have hL2:L++[0]=l++[128]++List.replicate (k+1) 0:=(by rw[←hL,List.replicate_succ',List.append_assoc _ (List.replicate k 0)]);rw[hL2] at h2;refine hK _ _ ?_;clear hK K;simp only[aA,aq,if_true,if_false];obtain⟨t2,e2,q0⟩:=cv h2 (by simp);refine⟨⟨k+1,by omega,g3,by simpa only[aB,↓reduceIte] using h2⟩,?_⟩;rw[uk] at g0;simp only[aB,↓reduceIte,uk,q0,g0,List.length_append,List.length_replicate,List.length_cons,List.length_nil,hlen];omega
 rcases h.2 with⟨rfl,rfl⟩|⟨t,e,_,_,rfl⟩
 ·refine jM ?_;exact hc _ (by simp only[aB,bx,Nc,↓reduceIte];rfl) rfl
 ·refine jM ?_;exact hc _ (by simp only[aB,bx,Nc,↓reduceIte];rfl) rfl
def qe(cs:List AV)(i:Nat):AV:=.sl 1 64 (List.drop (64*i) (List.take (64*i+64) cs)) .full
theorem Fv(cs:List AV)(t e m:Nat)(hl:cs.length=64*m)(hm:m≤2^40):
  Q7 prog Γ 232 [.cN [.sl 1 (64*m) cs (.own t e)],.cN [.v (.int .i64 64)]] ((List.range m).map (qe cs)):=by
 intro S l G W lb uK SK hs hy
 refine callsIn_of_wp func232 rfl trivial ?_
 have Cq:=Rel.entry (N:=31) (args:=[.v (.func (.yield l) #[] #[]),.cN [.sl 1 (64*m) cs (.own t e)],.cN [.v (.int .i64 64)]]) (vs:=.func (.yield l) #[] #[]::lb) hs (by simp only[ar];exact⟨_,_,rfl,by simp[av],by simpa only[ar] using SK⟩) (by simp) uK
 rw[show(#[.func (.yield l) #[] #[]]++lb.toArray:Array Value)=(.func (.yield l) #[] #[]::lb).toArray from by simp,ntmps232]
 refine wpIn_seq ?_
 refine lS (l:=none) (K:=fun E1 s1=>E1 0=.v (.func (.yield l) #[] #[])∧E1 1=.cN [.sl 1 (64*m) cs (.own t e)]∧E1 2=.cN [.v (.int .i64 64)]∧E1 4=.v (.int .i64 0)∧s1=S 0) ?_ Cq ?_
 ·simp only[↓DN,Qa,Qb,Qc,Qd,Qe,Qf,Qg,Qh,reduceCtorEq,↓reduceIte,Na,Nb,Nc,Nk,Nf,Ng,Nh,Za,Zb,Zc,TT]
 ·rintro G0 E0 s0 a0 w0 xdb FX ⟨e0,e1,e2,e4,rfl⟩
  refine wpIn_block ?_
  refine wpIn_loop (fun a w=>∃(i:Nat)(G1:Gh)(E1:Env),i≤m∧G.le G1∧Rel Γ 31 G1 E1 (S i) a w∧E1 0=.v (.func (.yield l) #[] #[])∧E1 1=.cN [.sl 1 (64*m) cs (.own t e)]∧E1 2=.cN [.v (.int .i64 64)]∧E1 4=.v (.int .i64 ((64*i:Nat):Int)))
   (fun a _=>match a.tmps.getD 4 undef with |.int _ x=>64*m-x.toNat|_=>0) ⟨0,G0,E0,Nat.zero_le _,xdb,FX,e0,e1,e2,e4⟩ ?_
  rintro a w ⟨i,G1,E1,hi,hle,hr,e0,e1,e2,e4⟩
  have ZE:a.tmps.getD 4 undef=.int .i64 ((64*i:Nat):Int):=by
   have:=hr.tmps 4
   rw[e4] at this
   simpa only[av] using this
  refine wpIn_seq ?_
  by_cases aY:i<m
  ·have bJ:((64*i:Nat):Int)<((64*m:Nat):Int):=by omega
   refine ct.wide (Q:=fun x E' s'=>x=.normal∧s'=S i∧E' 0=.v (.func (.yield l) #[] #[])∧E' 1=.cN [.sl 1 (64*m) cs (.own t e)]∧E' 2=.cN [.v (.int .i64 64)]∧E' 4=.v (.int .i64 ((64*i:Nat):Int))) ?_ hr ?_
   ·refine jB (Ai @e1 (Ai @e4 (decide_eq_true bJ))) ?_
    refine jE ?_
    refine ab ?_
    simp only[aB,e0,e1,e2,e4,Nc,↓reduceIte,and_self]
   ·rintro x G2 E2 s2 a2 w2 eW mR ⟨rfl,rfl,f0,f1,f2,f4⟩
    refine wpIn_seq (wpIn_block (wpIn_seq ?_))
    have h0:(0:Int)≤((64*i:Nat):Int):=by omega
    have gH:((64*i:Nat):Int)≤((64*m:Nat):Int):=by omega
    refine ct.wide (Q:=fun x E' s'=>x=.normal∧s'=S i∧E' 0=.v (.func (.yield l) #[] #[])∧E' 1=.cN [.sl 1 (64*m) cs (.own t e)]∧E' 2=.cN [.v (.int .i64 64)]∧E' 4=.v (.int .i64 ((64*i:Nat):Int))∧E' 5=.v (.int .i64 64)) ?_ mR ?_
    ·have Ca:¬(((64*m-64*i:Nat):Int)<64):=by omega
     refine fw T.mixed [] (by kernel_rfl) ?_
     intro K hK
     refine jV (Ai @f1 (Ai @f2 (Ai @f4 (Ai @h0 (Ai @gH (Ai @Int.le_refl @Ca)))))) hK ?_;clear hK K
     simp only[aB,f0,f1,f2,f4,Nc,↓reduceIte,and_self]
    ·rintro x G3 E3 s3 a3 w3 R3 re ⟨rfl,rfl,g0,g1,g2,g4,g5⟩
     refine wpIn_seq ?_
     have P7:dQ .i64 ((64*i:Nat):Int) 64=((64*i+64:Nat):Int):=gg (64*i) 64 (by omega)
     have B2:((64*i:Nat):Int)≤((64*i+64:Nat):Int):=by omega
     have Dv:((64*i+64:Nat):Int)≤((64*m:Nat):Int):=by omega
     refine uM (l:=l)
      (K1:=fun E' s'=>s'=S i∧E' 0=.v (.func (.yield l) #[] #[])∧E' 1=.cN [.sl 1 (64*m) cs (.own t e)]∧E' 2=.cN [.v (.int .i64 64)]∧E' 4=.v (.int .i64 ((64*i:Nat):Int))∧E' 28=qe cs i)
      (K2:=fun E' s'=>s'=S (i+1)∧E' 0=.v (.func (.yield l) #[] #[])∧E' 1=.cN [.sl 1 (64*m) cs (.own t e)]∧E' 2=.cN [.v (.int .i64 64)]∧E' 4=.v (.int .i64 ((64*i:Nat):Int))∧E' 30=.v (.bool false))
      rfl rfl (by decide) ?_ re ?_ ?_
     ·intro ops
      simp only[↓DN,Qa,Qb,Qc,Qd,Qe,Qf,Qg,Qh,reduceCtorEq,↓reduceIte,Na,Nb,Nc,Nk,Nf,Ng,Nh,Za,Zb,Zc,TT,g0,g1,g2,g4,g5,P7,h0,B2,Dv]
      rw[qe,show 64*i+64-64*i=64 by omega]
     ·rintro ops G4 E4 s4 a4 w4 fM Dx ⟨rfl,k0,k1,k2,k4,k28⟩
      have hu:=Dx.tmps 28
      rw[k28] at hu
      obtain⟨fn,tmps,assign,body,q1,q2⟩:=hy i (qe cs i) G4 (a4.tmps.getD 28 undef) w4 (by simp[aY]) (hle.trans (eW.trans (R3.trans fM))) Dx.st hu
      refine⟨fn,tmps,assign,body,q1,RoundIn.mono (F:=Fence.wide) q2 ?_⟩
      rintro e' W' ⟨rfl,G5,b1,b2⟩
      refine⟨rfl,G5,S (i+1),b1,b2,?_⟩
      simp only[↓DN,Qa,Qb,Qc,Qd,Qe,Qf,Qg,Qh,reduceCtorEq,↓reduceIte,Na,Nb,Nc,Nk,Nf,Ng,Nh,Za,Zb,Zc,TT]
      simp only[aB,k0,k1,k2,k4,Nc,↓reduceIte,and_self]
     ·rintro G4 E4 s4 a4 w4 fM Dx ⟨rfl,k0,k1,k2,k4,k30⟩
      show Code.wpIn Fence.wide 0 _ (Code.cond _ _ _) _ a4 w4
      refine ct.wide (Q:=fun x E' s'=>x=.normal∧s'=S (i+1)∧E' 0=.v (.func (.yield l) #[] #[])∧E' 1=.cN [.sl 1 (64*m) cs (.own t e)]∧E' 2=.cN [.v (.int .i64 64)]∧E' 4=.v (.int .i64 ((64*i:Nat):Int))) ?_ Dx ?_
      ·refine fq k30 (ab ?_)
       simp only[k0,k1,k2,k4,and_self]
      ·rintro x G5 E5 s5 a5 w5 fY OI ⟨rfl,rfl,q0,q1,q2,q4⟩
       show Code.wpIn Fence.wide 0 _ (Code.region _ _ _) _ a5 w5
       refine lS (l:=none) (K:=fun E' s'=>s'=S (i+1)∧E' 0=.v (.func (.yield l) #[] #[])∧E' 1=.cN [.sl 1 (64*m) cs (.own t e)]∧E' 2=.cN [.v (.int .i64 64)]∧E' 4=.v (.int .i64 ((64*(i+1):Nat):Int))) ?_ OI ?_
       ·simp only[↓DN,Qa,Qb,Qc,Qd,Qe,Qf,Qg,Qh,reduceCtorEq,↓reduceIte,Na,Nb,Nc,Nk,Nf,Ng,Nh,Za,Zb,Zc,TT,q0,q1,q2,q4,P7]
        rfl
       ·rintro G6 E6 s6 a6 w6 nA uk ⟨rfl,p0,p1,p2,p4⟩
        refine⟨⟨i+1,G6,E6,aY,hle.trans (eW.trans (R3.trans (fM.trans (fY.trans nA)))),uk,p0,p1,p2,p4⟩,?_⟩
        have:=uk.tmps 4
        rw[p4] at this
        simp only[av] at this
        rw[this,ZE]
        simp only[Int.toNat_natCast]
        omega
  ·obtain rfl:i=m:=by omega
   have bJ:¬((64*i:Nat):Int)<((64*i:Nat):Int):=by omega
   refine ct.wide (Q:=fun x E' s'=>x=.exit 0∧s'=S i) ?_ hr ?_
   ·refine jB (Ai @e1 (Ai @e4 (decide_eq_false bJ))) ?_
    refine jF ?_
    refine aC ?_
    exact⟨rfl,rfl⟩
   ·rintro x G2 E2 s2 a2 w2 eW mR ⟨rfl,rfl⟩
    refine⟨mR.defers.trans (eW.df.trans (hle.df.trans uK)),.tuple #[],?_,⟨_,rfl⟩,G2,hle.trans eW,by simpa using mR.st⟩
    rw[lO,results232]
    simp
theorem Fw(cs:List AV)(n t e:Nat)(s:AS):
  aj prog Γ 198 [.sl 1 n cs (.own t e),.v (.int .i64 64)] s (fun r s'=>r=.qE 232 [.cN [.sl 1 n cs (.own t e)],.cN [.v (.int .i64 64)]]∧s'=s):=by
 refine aa func198 rfl ntmps198 results198 (by simp) ?_;refine iw 2 3 (by decide) (by decide) (by decide) ?_;intro K hK;refine jM ?_;intro o1 h1 o2 h2;refine hK _ _ o1 o2 _ _ rfl rfl h1 (by rw[AS.gW];exact h2) ?_;clear hK K;refine wK fun K hK=>?_;refine jA ?_;refine jF ?_;refine ab ?_;refine hK _ _ ?_;clear hK K;refine jA ?_;exact jJ
theorem BJ(l:List UInt8)(i:Nat)(h:64*(i+1)≤l.length):qe (l.map ae) i=.sl 1 64 ((Sha.nE l i).map ae) .full∧(Sha.nE l i).length=64:=by
 have e1:Sha.nE l i=List.drop (64*i) (List.take (64*i+64) l):=by
  rw[Sha.nE,List.drop_take];congr 1;omega
 constructor
 ·rw[qe,e1];simp only[List.map_drop,List.map_take]
 ·simp only[Sha.nE,List.length_take,List.length_drop];omega
def J0(t:Sha.St)(i:Nat):List UInt8:=((t.list.take i).map Sha.be).flatten
theorem BK(t:Sha.St)(i:Nat)(h:i<8):J0 t i++Sha.be (t.list.getD i 0)=J0 t (i+1):=by
 rcases at8 h with rfl|rfl|rfl|rfl|rfl|rfl|rfl|rfl<;>rfl
theorem ZF(x:AV):List.replicate 4 x=[x,x,x,x]:=rfl
theorem BL(t:Sha.St):J0 t 8=t.bytes:=rfl
theorem Fx(t:Sha.St)(i:Nat)(h:i≤8):(J0 t i).length=4*i:=by
 rcases Nat.lt_or_ge i 8 with h'|h'
 ·rcases at8 h' with rfl|rfl|rfl|rfl|rfl|rfl|rfl|rfl<;>rfl
 ·obtain rfl:i=8:=(by omega);rfl
theorem P8(t:Sha.St)(i:Nat)(h:i<8):(eA t)[i]? =some (wV (t.list.getD i 0)):=by
 rcases at8 h with rfl|rfl|rfl|rfl|rfl|rfl|rfl|rfl<;>rfl
theorem lD(dU:Γ 0=eA Sha.H0)(hG:Γ 1=Sha.K.map wV)(ls:List (List UInt8))(sp:Sp)(hn:ls.length≤2^40)(hl:ls.flatten.length≤2^40)(s:AS):
  aj prog Γ 164 [.sl 1 ls.length (gu ls) sp] s (fun r s'=>dS s (Sha.sum ls.flatten) r s'):=by
 generalize oZ:ls.flatten=l at *
 have hf:=func164
 refine oF hf rfl (by rw[ntmps164];simp) ?_
 rw[ntmps164]
 intro G a w uK hr
 refine wpIn_seq ?_
 refine lS (l:=none) (K:=fun E' s'=>s'=s∧E' 0=.sl 1 ls.length (gu ls) sp) ?_ hr ?_
 ·simp only[↓DN,Qa,Qb,Qc,Qd,Qe,Qf,Qg,Qh,reduceCtorEq,↓reduceIte,Na,Nb,Nc,Nk,Nf,Ng,Nh,Za,Zb,Zc,TT]
 ·rintro G1 E1 s1 a1 w1 mw qZ ⟨rfl,e0⟩
  refine wpIn_seq ?_
  refine lS (l:=none) (K:=fun E' s'=>∃o3,s1.aw o3=none∧s'=s1.set o3 (eA Sha.H0)∧E' 0=.sl 1 ls.length (gu ls) sp∧E' 3=.ptr o3 0) ?_ qZ ?_
  ·simp only[↓DN,Qa,Qb,Qc,Qd,Qe,Qf,Qg,Qh,reduceCtorEq,↓reduceIte,Na,Nb,Nc,Nk,Nf,Ng,Nh,Za,Zb,Zc,TT,dU]
   intro o ho
   exact⟨o,ho,rfl,e0,rfl⟩
  ·rintro G2 E2 s2 a2 w2 eW mR ⟨o3,Au,rfl,f0,f3⟩
   refine wpIn_seq (wpIn_seq ?_)
   have xz:=Sha.sn l
   have hpm:=Sha.Ix l
   obtain⟨m,hm⟩:∃m,(Sha.pad l).length=64*m:=⟨(Sha.pad l).length/64,by omega⟩
   have hz:Sha.gL l.length<64:=by rw[Sha.gL];omega
   refine lS (l:=none) (K:=fun E' s'=>∃t e,(s1.set o3 (eA Sha.H0)).le s'∧E' 3=.ptr o3 0∧E' 12=.qE 232 [.cN [.sl 1 (64*m) ((Sha.pad l).map ae) (.own t e)],.cN [.v (.int .i64 64)]]) ?_ mR ?_
   ·simp only[↓DN,Qa,Qb,Qc,Qd,Qe,Qf,Qg,Qh,reduceCtorEq,↓reduceIte,Na,Nb,Nc,Nk,Nf,Ng,Nh,Za,Zb,Zc,TT,f0]
    refine ad (ly ls sp (by omega) (by rw[oZ];omega) _) ?_
    intro r sa bB
    rw[oZ] at bB
    simp only[↓DN,Qa,Qb,Qc,Qd,Qe,Qf,Qg,Qh,reduceCtorEq,↓reduceIte,Na,Nb,Nc,Nk,Nf,Ng,Nh,Za,Zb,Zc,TT]
    refine ad (Dc l (by omega) _ _ _ bB) ?_
    intro r sb bB
    obtain⟨t,e,FX⟩:=cv bB (by rw[←List.length_pos_iff];omega)
    rw[FX,hm] at *
    simp only[↓DN,Qa,Qb,Qc,Qd,Qe,Qf,Qg,Qh,reduceCtorEq,↓reduceIte,Na,Nb,Nc,Nk,Nf,Ng,Nh,Za,Zb,Zc,TT]
    refine ad (Fw _ _ t e _) ?_
    rintro r sc ⟨rfl,rfl⟩
    simp only[↓DN,Qa,Qb,Qc,Qd,Qe,Qf,Qg,Qh,reduceCtorEq,↓reduceIte,Na,Nb,Nc,Nk,Nf,Ng,Nh,Za,Zb,Zc,TT]
    exact⟨t,e,bB.1,f3,rfl⟩
   ·rintro G3 E3 s3 a3 w3 gH re ⟨t,e,hse,g3,g12⟩
    refine wpIn_block ?_
    have IE:G.le G3:=mw.trans (eW.trans gH)
    have ZG:G3.df=[]:=IE.df.trans uK
    have R4:s3.aw o3=some (eA Sha.H0):=hse.aw _ _ (AS.af _ _ _)
    have ZH:m≤2^40:=by omega
    refine wpIn_mono (yd (p:=13) (g:=.tmp 12) re ZG g12 (by kernel_rfl) (Fv ((Sha.pad l).map ae) t e m (by simpa using hm) ZH) (by decide) (fun i=>s3.set o3 (eA (Sha.hash (Sha.pad l) i))) (AS.La R4) (fun x=>aB (aB E3 13 x) 4 x) ?_ ?_) ?_
    ·rintro lp i x G4 a4 W hx Dx
     refine lS (l:=some lp) (K:=fun E' s'=>E'=aB (aB E3 13 x) 4 x∧s'=s3.set o3 (eA (Sha.hash (Sha.pad l) i))) ?_ Dx ?_
     ·simp only[↓DN,Qa,Qb,Qc,Qd,Qe,Qf,Qg,Qh,reduceCtorEq,↓reduceIte,Na,Nb,Nc,Nk,Nf,Ng,Nh,Za,Zb,Zc,TT]
     ·rintro G5 E5 s5 a5 w5 fY OI ⟨rfl,rfl⟩
      exact⟨rfl,G5,fY,OI⟩
    ·rintro lp i x G4 a4 W hx Dx
     refine wpIn_block ?_
     have hi:i<m:=by
      have:=(List.getElem?_eq_some_iff.1 hx).1
      simpa using this
     obtain rfl:qe ((Sha.pad l).map ae) i=x:=by simpa[hi] using hx
     obtain⟨hcv,gw⟩:=BJ (Sha.pad l) i (by omega)
     refine lS (l:=some lp) (K:=fun E' s'=>s'=s3.set o3 (eA (Sha.hash (Sha.pad l) (i+1)))) ?_ Dx ?_
     ·simp only[↓DN,Qa,Qb,Qc,Qd,Qe,Qf,Qg,Qh,reduceCtorEq,↓reduceIte,Na,Nb,Nc,Nk,Nf,Ng,Nh,Za,Zb,Zc,TT,g3]
      rw[hcv]
      have Ja:=JY hG (Sha.hash (Sha.pad l) i) (Sha.Iy _ i) (Sha.nE (Sha.pad l) i) gw (s3.set o3 (eA (Sha.hash (Sha.pad l) i)))
      rw[al,gw] at Ja
      refine ad (aj.gF (.cons (.refl _) (.cons AV.bN .nil)) Ja) ?_
      rintro r sd ⟨rfl,rfl⟩
      simp only[↓DN,Qa,Qb,Qc,Qd,Qe,Qf,Qg,Qh,reduceCtorEq,↓reduceIte,Na,Nb,Nc,Nk,Nf,Ng,Nh,Za,Zb,Zc,TT,g3]
      rfl
     ·rintro G5 E5 s5 a5 w5 fY OI rfl
      exact⟨rfl,G5,fY,OI.st⟩
    ·rintro x a4 w4 ⟨rfl,D,G4,fM,hD,hDk,rfl,NX⟩
     have NW:((List.range m).map (qe ((Sha.pad l).map ae))).length=m:=by simp
     rw[NW] at NX
     obtain⟨u,hu⟩:∃u,u=Sha.hash (Sha.pad l) m:=⟨_,rfl⟩
     have TV:u.bytes=Sha.sum l:=by rw[hu,Sha.sum,hm,Nat.mul_div_cancel_left _ (by decide)]
     rw[←hu] at NX
     have R5:s1.le (s3.set o3 (eA u)):=by
      refine AS.aF (AS.le.trans ?_ hse) Au _
      exact AS.aF (AS.le.refl s1) Au _
     have Db:(s3.set o3 (eA u)).aw o3=some (eA u):=AS.af _ _ _
     obtain⟨s4,xdc⟩:∃s4,s4=s3.set o3 (eA u):=⟨_,rfl⟩
     rw[←xdc] at NX R5 Db
     show Code.wpIn Fence.wide 0 _ _ _ _ w4
     refine ct.behind (Q:=ck prog f164.results.toList (fun r s'=>dS s1 (Sha.sum l) r s')) re fM hDk NX ZG ?_ ?_
     ·refine jA ?_
      refine wK fun K hK=>?_
      refine jB (Ai @g3 @Db) ?_
      refine ag ?_
      obtain⟨Z0,hZ0⟩:∃Z0,Z0=eA u:=⟨_,rfl⟩
      refine aD (fun E s2=>∃i:Nat,i≤8∧E 17=.agg Z0∧E 18=.v (.int .i64 i)∧dS s1 (J0 u i) (E 5) s2)
       (fun E _=>match E 18 with |.v (.int _ i)=>8-i.toNat|_=>0) ?_ ?_
      ·exact⟨0,by omega,by simp only[aB,Nc,↓reduceIte,hZ0],by simp only[aB,↓reduceIte];rfl,R5,.inl ⟨rfl,by simp only[aB,Nc,↓reduceIte]⟩⟩
      ·rintro E5 s5 ⟨i,hi,p17,ZI,y9⟩ -
       by_cases aY:i<8
       ·have fO:(i:Int)<8:=by omega
        have fD:(0:Int)≤(i:Int):=by omega
        refine jB (Ai @ZI (decide_eq_true fO)) ?_
        refine wK fun K2 aU=>?_
        refine jE ?_
        refine ab ?_
        refine aU _ _ ?_;clear aU K2
        refine wK fun K3 bq=>?_
        refine ag ?_
        have fA:=P8 u i aY
        rw[←hZ0] at fA
        have uj:=BK u i aY
        have P9:=Fx u i hi
        generalize u.list.getD i 0=x at *
        have Lo:eU .u32 (x:Int) 24=((x/2^24:Nat):Int):=vm x 24 (by decide)
        have Iv:eU .u32 (x:Int) 16=((x/2^16:Nat):Int):=vm x 16 (by decide)
        have s8:eU .u32 (x:Int) 8=((x/2^8:Nat):Int):=vm x 8 (by decide)
        refine jB (Ai @p17 (Ai @ZI (Ai @fD (Ai @fO (Ai @c8 @fA))))) ?_
        generalize uk:E5 5=r6 at y9
        refine jU (Ai @uk (Ai @Lo (Ai @Iv (Ai @s8 @ZF)))) fun K hK=>?_
        refine dk (ds:=Sha.be x) y9 rfl (by simp only[Sha.be,List.map_cons,List.map_nil,xk]) T.c5 T.b5 (by rw[P9];simp only[Sha.be,List.length_cons,List.length_nil];omega) ?_
        intro r2 s6 h6
        rw[uj] at h6
        refine hK _ _ ?_
        clear hK
        simp only[aA,aq,if_true,if_false]
        refine bq _ _ ?_;clear bq K3
        refine jD (Ai @ZI (cS i (by omega))) ?_
        refine⟨⟨i+1,by omega,by simp only[aB,p17,Nc,↓reduceIte],by simp only[aB,↓reduceIte],by simpa only[aB,Nc,↓reduceIte] using h6⟩,?_⟩
        simp only[ZI,aB,↓reduceIte]
        omega
       ·have fO:¬(i:Int)<8:=by omega
        obtain rfl:i=8:=by omega
        refine jB (Ai @ZI (decide_eq_false fO)) ?_
        refine wK fun K2 aU=>?_
        refine jF ?_
        refine aC ?_
        simp only[aA,aq,if_true]
        clear aU K2
        refine hK _ _ ?_;clear hK K
        rw[BL,TV] at y9
        generalize uk:E5 5=r6 at y9
        refine jB @uk ?_
        refine a7 ?_
        rw[results164]
        simp only[ck,bz,bF,dm,List.toList_toArray,↓bg];try simp only[UP,DF,Nc,↓reduceIte,DT]
        exact⟨_,_,AV.aE.refl _,AS.le.refl _,y9⟩
     ·intro e5 G5 E5 s5 a5 w5 fY hD5 xdd OI TW
      refine⟨?_,D,G5,E5,s5,IE.trans fY,?_,hD5,xdd,OI,?_⟩
      ·cases e5<;>simp only[ck] at TW<;>simp
      ·have q1:=re.st.below.size
       have q2:=re.st.base
       rw[IE.w0] at q1
       rw[IE.B] at q2
       exact⟨Nat.le_trans q1 hD,Nat.le_trans q2 hD⟩
      ·cases e5<;>simp only[ck] at TW<;>exact TW
theorem Qi(n:Nat)(h:n≤2^45):ia .u64 (cE .u64 (n:Int)) 8=((8*n*2^(8*0)%18446744073709551616:Nat):Int):=by
 rw[gN rfl,show(8:Int)=((8:Nat):Int) from rfl,Cd rfl];simp only[IntKind.bits];congr 1;omega
theorem MJ(n j:Nat)(hj:j<8):cE .u8 (eU .u64 ((8*n*2^(8*j)%18446744073709551616:Nat):Int) 56)=cE .u8 ((8*n/2^(8*(7-j)):Nat):Int):=by
 rw[show(56:Int)=((56:Nat):Int) from rfl,ir,gN rfl,gN rfl];simp only[IntKind.bits];congr 1;rw[show min 56 64=56 from rfl];have :j=0∨j=1∨j=2∨j=3∨j=4∨j=5∨j=6∨j=7:=(by omega);rcases this with rfl|rfl|rfl|rfl|rfl|rfl|rfl|rfl<;>simp only[Nat.reduceMul,Nat.reduceSub,Nat.reducePow]<;>omega
theorem Qj(n j:Nat)(hj:j<8):kC .u64 ((8*n*2^(8*j)%18446744073709551616:Nat):Int) 8=((8*n*2^(8*(j+1))%18446744073709551616:Nat):Int):=by
 rw[show(8:Int)=((8:Nat):Int) from rfl,rN rfl];simp only[IntKind.bits];congr 1;rw[show min 8 64=8 from rfl];have :j=0∨j=1∨j=2∨j=3∨j=4∨j=5∨j=6∨j=7:=(by omega);rcases this with rfl|rfl|rfl|rfl|rfl|rfl|rfl|rfl<;>simp only[Nat.reduceMul,Nat.reduceAdd,Nat.reducePow]<;>omega
theorem Dd(l:List UInt8)(hl:l.length≤2^44)(s:AS):
  aj prog Γ 209 [.v (.string ⟨l.toArray⟩)] s (fun r s'=>dS s (Sha.pad l) r s'):=by
 refine aa func209 rfl ntmps209 results209 (by simp) ?_;refine jA ?_;refine Co rfl (by decide) ?_;intro ops;refine jM ?_;refine⟨fun r s'=>dS s l r s',fun G a w hr=>?_,?_⟩
 ·exact Cn (l:=l) (src:=9) (dst:=23) (e:=5) (x:=.tmp 6) rfl underlying9 underlying23 underlying5 (by simp only[aN,aB,↓reduceIte]) hr.eval hr.st
 intro r s1 h1;simp only[↓DN,Qa,Qb,Qc,Qd,Qe,Qf,Qg,Qh,reduceCtorEq,↓reduceIte,Na,Nb,Nc,Nk,Nf,Ng,Nh,Za,Zb,Zc,TT,List.replicate_one,Nat.lt_irrefl];refine dk (ds:=[128]) h1 rfl rfl T.c5 T.b5 (by simp;omega) ?_;intro r2 s2 h2;refine wK fun K hK=>?_;refine ag ?_;refine aD (fun E s2=>∃k:Nat,k≤Sha.gL l.length∧E 0=.v (.string ⟨l.toArray⟩)∧dS s (l++[128]++List.replicate k 0) (E 3) s2)
  (fun E s2=>match E 3 with |.sl _ n _ _=>l.length+1+Sha.gL l.length-n|_=>0) ?_ ?_
 ·exact⟨0,Nat.zero_le _,by simp only[aB,bx,Nc,↓reduceIte,List.getD_cons_zero],by simpa only[aB,↓reduceIte,List.replicate_zero,List.append_nil] using h2⟩
 ·rintro E2 s3 ⟨k,hk,g0',sr⟩ -
  refine wK fun K2 aU=>?_;obtain⟨t,e,g0⟩:=cv sr (by simp);have hlen:(l++[128]++List.replicate k 0).length=l.length+1+k:=(by simp;omega);generalize hL:l++[128]++List.replicate k 0=L at *
  have hLn:L≠[]:=(by intro e';rw[e'] at hlen;simp only[List.length_nil] at hlen;omega);by_cases tF:k=Sha.gL l.length
  ·have h56:L.length%64=56:=(by rw[hlen,tF,Sha.gL];omega);have hb:=RZ (show((L.length%64:Nat):Int)=56 by omega);refine jB (Ai @g0 (Ai @ID @hb)) ?_;refine wC fun X Y hX hY=>?_;refine jP (Ai @DB @hb) ?_;refine hY ?_;clear hX hY X Y;refine aC ?_;simp only[aA,aq,if_true];clear aU K2;refine hK _ _ ?_;clear hK K;rw[←g0];have P9:=Qi l.length (by omega);refine jB (Ai @g0' (Ai @dO @P9)) ?_;refine wK fun K hK=>?_;refine jA ?_;refine ag ?_;refine aD (fun E s2=>∃j:Nat,j≤8∧E 4=.v (.int .u64 ((8*l.length*2^(8*j)%18446744073709551616:Nat):Int))∧E 5=.v (.int .i64 j)∧dS s (L++(Sha.wQ l.length).take j) (E 3) s2)
    (fun E s2=>match E 5 with |.v (.int _ i)=>8-i.toNat|_=>0) ?_ ?_
   ·exact⟨0,by omega,by simp only[aB,Nc,↓reduceIte,Nat.mul_zero,Nat.pow_zero,Nat.mul_one],rfl,by simpa only[aB,Nc,↓reduceIte,List.take_zero,List.append_nil] using sr⟩
   ·rintro E3 s4 ⟨j,hj,f4,f5,wR⟩ -
    refine wK fun K2 aU=>?_;by_cases kg:j<8
    ·have cA:(j:Int)<8:=(by omega);refine jB (Ai @f5 (decide_eq_true cA)) ?_;refine jE ?_;refine ab ?_;refine aU _ _ ?_;clear aU K2;refine wK fun K3 bq=>?_;refine ag ?_;have hby:=MJ l.length j kg;have hsh:=Qj l.length j kg;generalize 8*l.length*2^(8*j)%18446744073709551616=y at *
     generalize uk:E3 3=r6 at wR;refine wS fun K hK=>?_;simp only[↓DN,Qa,Qb,Qc,Qd,Qe,Qf,Qg,Qh,reduceCtorEq,↓reduceIte,Na,Nb,Nc,Nk,Nf,Ng,Nh,Za,Zb,Zc,TT,uk,f4,hby,List.replicate_one,Nat.lt_irrefl];refine dk (ds:=[UInt8.ofNat (8*l.length/2^(8*(7-j)))]) wR rfl (by rw[List.map_cons,xk];rfl) T.c5 T.b5 (by rw[List.length_append,List.length_take,hlen];unfold Sha.gL at hk;simp only[List.length_cons,List.length_nil];omega) ?_;intro r2 s5 h5;rw[List.append_assoc,←Fu _ _ _ (Ft l.length j kg)] at h5;refine hK _ _ ?_;clear hK K;refine jD (Ai @f4 @hsh) ?_;simp only[aA,aq,if_true,if_false];refine bq _ _ ?_;clear bq K3;refine jD (Ai @f5 (cS j (by omega))) ?_;refine⟨⟨j+1,by omega,rfl,rfl,by simpa only[aB,Nc,↓reduceIte] using h5⟩,?_⟩;simp only[f5,aB,↓reduceIte];omega
    ·have cA:¬(j:Int)<8:=(by omega);obtain rfl:j=8:=(by omega);refine jB (Ai @f5 (decide_eq_false cA)) ?_;refine jF ?_;refine aC ?_;simp only[aA,aq,if_true];clear aU K2;refine hK _ _ ?_;clear hK K;have qG:L++(Sha.wQ l.length).take 8=Sha.pad l:=by
      rw[←hL,tF,Sha.pad,show(Sha.wQ l.length).take 8=Sha.wQ l.length from rfl];simp
     rw[qG] at wR;generalize uk:E3 3=r6 at wR;refine jB @uk ?_;refine jI ?_;exact⟨_,_,AV.aE.refl _,AS.le.refl _,wR⟩
  ·have h56:L.length%64≠56:=(by rw[hlen];unfold Sha.gL at hk tF;omega);have hb:=RY (show((L.length%64:Nat):Int)≠56 by omega);refine jB (Ai @g0 (Ai @ID @hb)) ?_;refine wC fun X Y hX hY=>?_;refine jP (Ai @DB @hb) ?_;refine hX ?_;clear hX hY X Y;refine ab ?_;refine aU _ _ ?_;clear aU K2;refine ag ?_;generalize uk:E2 3=r6 at sr;refine wE fun K hK=>?_;simp only[↓DN,Qa,Qb,Qc,Qd,Qe,Qf,Qg,Qh,reduceCtorEq,↓reduceIte,Na,Nb,Nc,Nk,Nf,Ng,Nh,Za,Zb,Zc,TT,uk,List.replicate_one,Nat.lt_irrefl];refine dk (ds:=[0]) sr rfl rfl T.c5 T.b5 (by rw[hlen];unfold Sha.gL at hk;simp;omega) ?_;intro r2 s2 h2;have hL2:L++[0]=l++[128]++List.replicate (k+1) 0:=(by rw[←hL,List.replicate_succ',List.append_assoc _ (List.replicate k 0)]);rw[hL2] at h2;refine hK _ _ ?_;clear hK K;simp only[aA,aq,if_true,if_false];obtain⟨t2,e2,q0⟩:=cv h2 (by simp);refine⟨⟨k+1,by omega,g0',by simpa only[aB,↓reduceIte] using h2⟩,?_⟩;rw[uk] at g0;simp only[aB,↓reduceIte,uk,q0,g0,List.length_append,List.length_replicate,List.length_cons,List.length_nil,hlen];omega
theorem Qk(a b c d:UInt8):F6 .u32 (F6 .u32 (F6 .u32 (kC .u32 (cE .u32 (a.toNat:Int)) 24) (kC .u32 (cE .u32 (b.toNat:Int)) 16)) (kC .u32 (cE .u32 (c.toNat:Int)) 8)) (cE .u32 (d.toNat:Int))=((Sha.Hl a.toNat b.toNat c.toNat d.toNat:Nat):Int):=by
 have ha:=a.toNat_lt;have hb:=b.toNat_lt;have hc:=c.toNat_lt;have hd:=d.toNat_lt;have e1:∀x:UInt8,cE .u32 (x.toNat:Int)=((x.toNat:Nat):Int):=fun x=>by
  have:=x.toNat_lt;rw[gN rfl];simp only[IntKind.bits];congr 1;omega
 have Lo:∀x:Nat,x<256→kC .u32 (x:Int) 24=((x*16777216:Nat):Int):=fun x hx=>by
  have:=MC x 24 (by decide);rw[show((24:Nat):Int)=24 from rfl] at this;rw[this];congr 1;simp only[Nat.reducePow];omega
 have Iv:∀x:Nat,x<256→kC .u32 (x:Int) 16=((x*65536:Nat):Int):=fun x hx=>by
  have:=MC x 16 (by decide);rw[show((16:Nat):Int)=16 from rfl] at this;rw[this];congr 1;simp only[Nat.reducePow];omega
 have s8:∀x:Nat,x<256→kC .u32 (x:Int) 8=((x*256:Nat):Int):=fun x hx=>by
  have:=MC x 8 (by decide);rw[show((8:Nat):Int)=8 from rfl] at this;rw[this];congr 1;simp only[Nat.reducePow];omega
 rw[e1,e1,e1,e1];generalize a.toNat=a at *
 generalize b.toNat=b at *
 generalize c.toNat=c at *
 generalize d.toNat=d at *
 rw[Lo a ha,Iv b hb,s8 c hc];have o1:a*16777216 ||| b*65536=a*16777216+b*65536:=by
  have:=Nat.shiftLeft_add_eq_or_of_lt (b:=b*65536) (i:=24) (by simp only[Nat.reducePow];omega) a;rw[Nat.shiftLeft_eq] at this;simp only[Nat.reducePow] at this;exact this.symm
 have o2:(a*16777216+b*65536) ||| c*256=a*16777216+b*65536+c*256:=by
  have:=Nat.shiftLeft_add_eq_or_of_lt (b:=c*256) (i:=16) (by simp only[Nat.reducePow];omega) (a*256+b);rw[Nat.shiftLeft_eq] at this;simp only[Nat.reducePow] at this;have e:(a*256+b)*65536=a*16777216+b*65536:=(by simp only[Nat.add_mul,Nat.mul_assoc,Nat.reduceMul]);rw[e] at this;exact this.symm
 have o3:(a*16777216+b*65536+c*256) ||| d=a*16777216+b*65536+c*256+d:=by
  have:=Nat.shiftLeft_add_eq_or_of_lt (b:=d) (i:=8) (by simp only[Nat.reducePow];omega) (a*65536+b*256+c);rw[Nat.shiftLeft_eq] at this;simp only[Nat.reducePow] at this;have e:(a*65536+b*256+c)*256=a*16777216+b*65536+c*256:=(by simp only[Nat.add_mul,Nat.mul_assoc,Nat.reduceMul]);rw[e] at this;exact this.symm
 rw[Zz _ _ (by omega) (by omega),o1,Zz _ _ (by omega) (by omega),o2,Zz _ _ (by omega) (by omega),o3,Sha.Hl];simp only[Nat.add_mul,Nat.mul_assoc,Nat.reduceMul]
structure Kp(oh m:Nat)(pl:List UInt8)(sp:Sp)(i:Nat)(E:Env):Prop where
 h3:E 3=.ig oh 0 1 8 8
 h4:E 4=.sl 1 64 (Sha.K.map wV) .no
 h5:E 5=.sl 1 (64*m) (pl.map ae) sp
 h6:E 6=.v (.int .i64 ((64*i:Nat):Int))
theorem Kp.aB{oh m i d:Nat}{pl:List UInt8}{sp:Sp}{E:Env}{v:AV}(h:Kp oh m pl sp i E)(hd:d≠3∧d≠4∧d≠5∧d≠6):Kp oh m pl sp i (aB E d v):=
 ⟨by rw[gQ _ _ (Ne.symm hd.1)];exact h.h3,by rw[gQ _ _ (Ne.symm hd.2.1)];exact h.h4,by rw[gQ _ _ (Ne.symm hd.2.2.1)];exact h.h5,by rw[gQ _ _ (Ne.symm hd.2.2.2)];exact h.h6⟩
structure Kq(ow:Nat)(E:Env):Prop where
 h7:E 7=.ig ow 0 1 64 64
theorem Kq.aB{ow d:Nat}{E:Env}{v:AV}(h:Kq ow E)(hd:d≠7):Kq ow (aB E d v):=⟨by rw[gQ _ _ (Ne.symm hd)];exact h.h7⟩
structure Kr(cs:List AV)(sp:Sp)(E:Env):Prop where
 Mo:E 13=.sl 1 8 cs sp
theorem Kr.aB{cs:List AV}{sp:Sp}{d:Nat}{E:Env}{v:AV}(h:Kr cs sp E)(hd:d≠13):Kr cs sp (aB E d v):=⟨by rw[gQ _ _ (Ne.symm hd)];exact h.Mo⟩
theorem xde(l:List UInt8)(i:Nat)(h:i<l.length):List.take 1 (List.drop i (l.map ae))=[.v (.int .u8 ((l.getD i 0).toNat:Int))]:=by
 have :(l.map ae)[i]? =some (ae (l.getD i 0)):=by
  rw[List.getElem?_map,List.getElem?_eq_getElem h];simp only[Option.map_some,List.getD,List.getElem?_eq_getElem h,Option.getD_some]
 rw[drop_cons _ _ _ this];rfl
theorem MK(l:List UInt8)(i:Nat)(h:i<l.length):List.map ae (List.take 1 (List.drop i l))=[.v (.int .u8 ((l.getD i 0).toNat:Int))]:=by
 rw[List.map_take,List.map_drop];exact xde l i h
theorem ML(l:List UInt8)(i j:Nat)(h:j<64)(hl:64*i+j<l.length):(Sha.nE l i).getD j 0=l.getD (64*i+j) 0:=by
 simp only[Sha.nE,List.getD_eq_getElem?_getD,List.getElem?_take,if_pos h,List.getElem?_drop]
theorem xdf(x:AV):List.replicate 8 x=[x,x,x,x,x,x,x,x]:=rfl
theorem ZJ(l:List Nat)(i:Nat)(h:i<l.length):List.drop i (l.map wV)=wV (l.getD i 0)::List.drop (i+1) (l.map wV):=drop_cons _ _ _ (yY l i h)
theorem ot(l:List UInt8)(hl:l.length≤2^40)(s:AS):
  aj prog Γ 170 [.v (.string ⟨l.toArray⟩)] s (fun r s'=>r=.v (.string ⟨(Sha.sum l).toArray⟩)∧s'=s):=by
 refine aa func170 rfl ntmps170 results170 (by simp) ?_;refine jA ?_;refine Ck rfl (by decide) (fun r s'=>∃ob,s.aw ob=none∧r=.ig ob 0 (prog.cellsOf 214) 8 8∧s'=s.set ob (eA Sha.H0)) (fun G a w hr=>?_) ?_
 ·exact Eu (cs:=eA Sha.H0) (e:=214) rfl underlying227 T.S5 (by rw[T.Cu];decide) (by rw[T.Cu];decide) (by rw[T.Cu];rfl) (by simp only[T.Cu];rfl) hr.eval hr.st
 rw[T.Cu];rintro r s1 ⟨oh,hoh,rfl,rfl⟩;refine jM ?_;refine jK (Hn _) ?_;rintro s2 rfl;refine jQ fun K hK=>?_;refine ad (Dd l (by omega) _) ?_;intro r s1 bB;have xz:=Sha.sn l;have hpm:=Sha.Ix l;obtain⟨m,hm⟩:∃m,(Sha.pad l).length=64*m:=⟨(Sha.pad l).length/64,by omega⟩;have hz:Sha.gL l.length<64:=(by rw[Sha.gL];omega);have ZH:64*m≤2^41:=(by omega);obtain⟨tk,e,FX⟩:=cv bB (by rw[←List.length_pos_iff];omega);rw[hm] at FX;subst FX;have hle:s.le s1:=AS.le.trans (AS.aF (AS.le.refl s) hoh _) bB.1;have Aw:s1.aw oh=some (eA Sha.H0):=bB.1.aw _ _ (AS.af _ _ _);clear bB;refine jR hK ?_;clear hK K;have OL:(Sha.hash (Sha.pad l) m).bytes=Sha.sum l:=(by rw[Sha.sum,hm,Nat.mul_div_cancel_left _ (by decide)]);obtain⟨pl,xdg⟩:∃pl,pl=Sha.pad l:=⟨_,rfl⟩;rw[←xdg] at hm OL⊢;refine wK fun K hK=>?_;refine jA ?_;refine ag ?_;refine aD (fun E s2=>∃i:Nat,i≤m∧Kp oh m pl (.own tk e) i E∧s2.aw oh=some (eA (Sha.hash pl i))∧s.le s2)
  (fun E _=>match E 6 with |.v (.int _ x)=>64*m-x.toNat|_=>0) ?_ ?_
 ·exact⟨0,Nat.zero_le _,⟨rfl,rfl,rfl,rfl⟩,Aw,hle⟩
 ·rintro E1 s2 ⟨i,hi,hk,ho,hle⟩ -
  have e6:=hk.h6;have ZE:=hk.h6;refine wK fun K2 aU=>?_;by_cases aY:i<m
  ·have bJ:((64*i:Nat):Int)<((64*m:Nat):Int):=(by omega);refine jB (Ai @e6 (Ai @hk.h5 (decide_eq_true bJ))) ?_;refine jE ?_;refine ab ?_;refine aU _ _ ?_;clear aU K2;refine wK fun K3 bq=>?_;refine ag ?_;have gw:(Sha.nE pl i).length=64:=(BJ pl i (by omega)).2;have ZK:∀j,j<64→(Sha.nE pl i).getD j 0=pl.getD (64*i+j) 0:=fun j hj=>ML pl i j hj (by omega);have hpg:∀j,j<64*m→List.map ae (List.take 1 (List.drop j pl))=[.v (.int .u8 ((pl.getD j 0).toNat:Int))]:=fun j hj=>MK pl j (by omega);obtain⟨c,hc⟩:∃c,c=Sha.nE pl i:=⟨_,rfl⟩;rw[←hc] at gw ZK;have RC:Sha.hash pl (i+1)=Sha.mix (Sha.hash pl i) c:=(by rw[hc];rfl);have gS:=Sha.Iy pl i;generalize xiS:Sha.hash pl i=st at *
   refine jQ fun K hK=>?_;refine⟨by decide,by decide,fun ow how=>?_⟩;have hwh:ow≠oh:=(fun e'=>by rw[e',ho] at how;cases how);have TX:s.aw ow=none:=by
    cases hs:s.aw ow with
    |none=>rfl
    |some cs=>rw[hle.aw _ _ hs] at how;cases how
   refine hK _ _ ?_;clear hK;rw[show List.replicate 64 (AV.v (.int .u32 0))=row c 0 from rfl];obtain⟨E2,hE2⟩:∃E2,E2=(aB (aB (aB (aB (aB (aB E1 24 (AV.v (Value.int IntKind.i64 ((64*i:Nat):Int)))) 25 (AV.sl 1 (64*m) (List.map ae pl) (Sp.own tk e))) 26 (AV.v (Value.int IntKind.i64 ((64*m:Nat):Int)))) 27 (AV.v (Value.bool true))) 30 (AV.ig ow 0 1 64 64)) 7 (AV.ig ow 0 1 64 64)):=⟨_,rfl⟩;have hk:Kp oh m pl (.own tk e) i E2:=by
    rw[hE2];repeat(first |exact hk|refine Kp.aB ?_ (by decide))
   have hq:Kq ow E2:=⟨by rw[hE2];simp only[aB,↓reduceIte]⟩;rw[←hE2];clear hE2 e6;refine wK fun K4 dM=>?_;refine jA ?_;refine ag ?_;refine aD (fun E s3=>∃t:Nat,t≤16∧Kp oh m pl (.own tk e) i E∧Kq ow E∧E 8=.v (.int .i64 t)∧s3.aw ow=some (row c t)∧s3.aw oh=some (eA st)∧s.le s3)
    (fun E _=>match E 8 with |.v (.int _ x)=>16-x.toNat|_=>0) ?_ ?_
   ·exact⟨0,by omega,(by repeat(first |exact hk|exact hq|refine Kp.aB ?_ (by decide)|refine Kq.aB ?_ (by decide))),(by repeat(first |exact hk|exact hq|refine Kp.aB ?_ (by decide)|refine Kq.aB ?_ (by decide))),rfl,AS.af _ _ _,by rw[AS.ao _ hwh.symm];exact ho,AS.aF hle TX _⟩
   ·rintro E3 s3 ⟨t,ht,hk,hq,g8,jw,jh,gH⟩ -
    refine wK fun K5 ju=>?_;by_cases nF:t<16
    ·have bJ:(t:Int)<16:=(by omega);refine jB (Ai @g8 (decide_eq_true bJ)) ?_;refine jE ?_;refine ab ?_;refine ju _ _ ?_;clear ju K5;refine wK fun K6 kU=>?_;refine ag ?_;have a0:dQ .i64 ((64*i:Nat):Int) ((4*t:Nat):Int)=((64*i+4*t:Nat):Int):=gg _ _ (by omega);have a1:dQ .i64 ((64*i+4*t:Nat):Int) 1=((64*i+4*t+1:Nat):Int):=gg _ 1 (by omega);have a2:dQ .i64 ((64*i+4*t:Nat):Int) 2=((64*i+4*t+2:Nat):Int):=gg _ 2 (by omega);have a3:dQ .i64 ((64*i+4*t:Nat):Int) 3=((64*i+4*t+3:Nat):Int):=gg _ 3 (by omega);have ZL:Sha.word c (Sha.mq c t) t=Sha.Hl (pl.getD (64*i+4*t) 0).toNat (pl.getD (64*i+4*t+1) 0).toNat (pl.getD (64*i+4*t+2) 0).toNat (pl.getD (64*i+4*t+3) 0).toNat:=by
      rw[Sha.word,if_pos nF,ZK _ (by omega),ZK _ (by omega),ZK _ (by omega),ZK _ (by omega)];rfl
     have cz:=xj c t (by omega);rw[ZL] at cz;simp only[wV] at cz;rw[←Qk] at cz;have p0:=hpg (64*i+4*t) (by omega);have p1:=hpg (64*i+4*t+1) (by omega);have p2:=hpg (64*i+4*t+2) (by omega);have p3:=hpg (64*i+4*t+3) (by omega);have b0:((64*i+4*t:Nat):Int)<((64*m:Nat):Int):=(by omega);have b1:((64*i+4*t+1:Nat):Int)<((64*m:Nat):Int):=(by omega);have b2:((64*i+4*t+2:Nat):Int)<((64*m:Nat):Int):=(by omega);have b3:((64*i+4*t+3:Nat):Int)<((64*m:Nat):Int):=(by omega);have q0:(0:Int)≤((64*i+4*t:Nat):Int):=(by omega);have q1:(0:Int)≤((64*i+4*t+1:Nat):Int):=(by omega);have q2:(0:Int)≤((64*i+4*t+2:Nat):Int):=(by omega);have q3:(0:Int)≤((64*i+4*t+3:Nat):Int):=(by omega);have iG:(0:Int)≤(t:Int):=(by omega);have MM:(t:Int)<((64:Nat):Int):=(by omega);have hlen:=cj c t (by omega);generalize pl.getD (64*i+4*t) 0=x0 at *
     generalize pl.getD (64*i+4*t+1) 0=x1 at *
     generalize pl.getD (64*i+4*t+2) 0=x2 at *
     generalize pl.getD (64*i+4*t+3) 0=x3 at *
     obtain⟨R,hR⟩:∃R,R=row c t:=⟨_,rfl⟩;rw[←hR] at cz hlen jw;refine jB (Ai @hk.h6 (Ai @g8 (Ai (Fo t (by omega)) @a0))) ?_;refine fw T.mixed [32] (by kernel_rfl) ?_;intro K hK;refine jN (Ai @hk.h5 (Ai @hq.h7 (Ai @g8 (Ai @a1 (Ai @a2 (Ai @a3 (Ai @q0 (Ai @q1 (Ai @q2 (Ai @q3 (Ai @b0 (Ai @b1 (Ai @b2 (Ai @b3 (Ai @p0 (Ai @p1 (Ai @p2 (Ai @p3 (Ai @iG (Ai @MM (Ai @jw (Ai @cz @hlen)))))))))))))))))))))) ?_;refine⟨by omega,hK _ _ ?_⟩;clear hK;simp only[aA,aq,if_true,if_false];refine kU _ _ ?_;clear kU K6;refine jD (Ai @g8 (cS t (by omega))) ?_;refine⟨⟨t+1,by omega,(by repeat(first |exact hk|exact hq|refine Kp.aB ?_ (by decide)|refine Kq.aB ?_ (by decide))),(by repeat(first |exact hk|exact hq|refine Kp.aB ?_ (by decide)|refine Kq.aB ?_ (by decide))),rfl,AS.af _ _ _,by rw[AS.ao _ hwh.symm];exact jh,AS.aF gH TX _⟩,?_⟩;simp only[g8,aB,↓reduceIte];omega
    ·have bJ:¬(t:Int)<16:=(by omega);obtain rfl:t=16:=(by omega);refine jB (Ai @g8 (decide_eq_false bJ)) ?_;refine jF ?_;refine aC ?_;simp only[aA,aq,if_true];clear ju K5;refine dM _ _ ?_;clear dM K4;have hk:Kp oh m pl (.own tk e) i (aB (aB E3 31 (AV.v (.int .i64 ((16:Nat):Int)))) 32 (AV.v (.bool false))):=(by repeat(first |exact hk|exact hq|refine Kp.aB ?_ (by decide)|refine Kq.aB ?_ (by decide)));have hq:Kq ow (aB (aB E3 31 (AV.v (.int .i64 ((16:Nat):Int)))) 32 (AV.v (.bool false))):=(by repeat(first |exact hk|exact hq|refine Kp.aB ?_ (by decide)|refine Kq.aB ?_ (by decide)));generalize (aB (aB E3 31 (AV.v (.int .i64 ((16:Nat):Int)))) 32 (AV.v (.bool false)))=E4 at *
     clear g8;refine wK fun K4 dM=>?_;refine jA ?_;refine ag ?_;refine aD (fun E s3=>∃t:Nat,16≤t∧t≤64∧Kp oh m pl (.own tk e) i E∧Kq ow E∧E 10=.v (.int .i64 t)∧s3.aw ow=some (row c t)∧s3.aw oh=some (eA st)∧s.le s3)
      (fun E _=>match E 10 with |.v (.int _ x)=>64-x.toNat|_=>0) ?_ ?_
     ·exact⟨16,by omega,by omega,(by repeat(first |exact hk|exact hq|refine Kp.aB ?_ (by decide)|refine Kq.aB ?_ (by decide))),(by repeat(first |exact hk|exact hq|refine Kp.aB ?_ (by decide)|refine Kq.aB ?_ (by decide))),rfl,jw,jh,gH⟩
     ·rintro E5 s4 ⟨t,ht,PC,hk,hq,g10,jw,jh,fM⟩ -
      refine wK fun K5 ju=>?_;by_cases nF:t<64
      ·have bJ:(t:Int)<64:=(by omega);refine jB (Ai @g10 (decide_eq_true bJ)) ?_;refine jE ?_;refine ab ?_;refine ju _ _ ?_;clear ju K5;refine wK fun K6 kU=>?_;refine ag ?_;have iG:(0:Int)≤(t:Int):=(by omega);have MM:(t:Int)<((64:Nat):Int):=(by omega);have n2:(0:Int)≤((t-2:Nat):Int):=(by omega);have n7:(0:Int)≤((t-7:Nat):Int):=(by omega);have n15:(0:Int)≤((t-15:Nat):Int):=(by omega);have n16:(0:Int)≤((t-16:Nat):Int):=(by omega);have m2:((t-2:Nat):Int)<((64:Nat):Int):=(by omega);have m7:((t-7:Nat):Int)<((64:Nat):Int):=(by omega);have RW:((t-15:Nat):Int)<((64:Nat):Int):=(by omega);have P1:((t-16:Nat):Int)<((64:Nat):Int):=(by omega);have w2:dr .i64 (t:Int) 2=((t-2:Nat):Int):=gP t 2 (by omega) (by omega);have w7:dr .i64 (t:Int) 7=((t-7:Nat):Int):=gP t 7 (by omega) (by omega);have w15:dr .i64 (t:Int) 15=((t-15:Nat):Int):=gP t 15 (by omega) (by omega);have ZM:dr .i64 (t:Int) 16=((t-16:Nat):Int):=gP t 16 (by omega) (by omega);have d2:=kx c t (t-2) (by omega);have d7:=kx c t (t-7) (by omega);have d15:=kx c t (t-15) (by omega);have d16:=kx c t (t-16) (by omega);have hw:Sha.word c (Sha.mq c t) t=Sha.ew (Sha.ew (Sha.ew (Sha.C9 ((Sha.mq c t).getD (t-2) 0) 17 19 10) ((Sha.mq c t).getD (t-7) 0)) (Sha.C9 ((Sha.mq c t).getD (t-15) 0) 7 18 3)) ((Sha.mq c t).getD (t-16) 0):=(by rw[Sha.word,if_neg (by omega)]);have cz:=xj c t nF;rw[hw] at cz;have hlen:=cj c t PC;have l2:=Sha.mI c t (t-2);have P2:=Sha.mI c t (t-15);generalize (Sha.mq c t).getD (t-2) 0=y at *
       generalize (Sha.mq c t).getD (t-7) 0=x7 at *
       generalize (Sha.mq c t).getD (t-15) 0=x at *
       generalize (Sha.mq c t).getD (t-16) 0=x16 at *
       obtain⟨R,hR⟩:∃R,R=row c t:=⟨_,rfl⟩;rw[←hR] at d2 d7 d15 d16 cz hlen jw;have y10:eU .u32 (y:Int) 10=((y/2^10:Nat):Int):=vm y 10 (by decide);have x3:eU .u32 (x:Int) 3=((x/2^3:Nat):Int):=vm x 3 (by decide);have v1:=pd _ _ (Sha.cp 17 l2) (Sha.cp 19 l2);have v2:=pd _ _ (Nat.xor_lt_two_pow (n:=32) (Sha.cp 17 l2) (Sha.cp 19 l2)) (Nat.lt_of_le_of_lt (Nat.div_le_self y (2^10)) l2);have v3:=pd _ _ (Sha.cp 7 P2) (Sha.cp 18 P2);have v4:=pd _ _ (Nat.xor_lt_two_pow (n:=32) (Sha.cp 7 P2) (Sha.cp 18 P2)) (Nat.lt_of_le_of_lt (Nat.div_le_self x (2^3)) P2);have u1:(Sha.my y 17 ^^^ Sha.my y 19) ^^^ (y/2^10)=Sha.C9 y 17 19 10:=rfl;have u2:(Sha.my x 7 ^^^ Sha.my x 18) ^^^ (x/2^3)=Sha.C9 x 7 18 3:=rfl;rw[u1] at v2;rw[u2] at v4;simp only[Nat.reducePow] at y10 x3 v2 v4;refine ef T.mixed [(ow,R)] [] [4,9] [] (by kernel_rfl) (by simp only[aH,aL,and_true];simp[AS.set,aB,jw]) ?_;intro K hK;simp only[↓bt,↓a8,dx,dt,aR,aV,aH,aL,List.any_cons,List.any_nil,List.contains_cons,List.contains_nil,Nat.reduceBEq,Bool.or_false,Bool.or_true,Bool.or_self,Bool.false_or,↓DN,Qa,Qb,Qc,Qd,Qe,Qf,Qg,Qh,reduceCtorEq,↓reduceIte,Na,Nb,Nc,Nk,Nf,Ng,Nh,Za,Zb,Zc,TT,hq.h7,g10,w2,w15,n2,n15,m2,RW,d2,d15,jw];refine hK _ _ ?_;clear hK K;refine cV T.mixed [(ow,R)] [3,5,17,19] [14,29] [32] (by kernel_rfl) (by simp only[aH,aL,and_true];simp[AS.set,aB,jw]) ?_;intro K hK;simp only[↓bt,↓a8,dx,dt,aR,aV,aH,aL,List.any_cons,List.any_nil,List.contains_cons,List.contains_nil,Nat.reduceBEq,Bool.or_false,Bool.or_true,Bool.or_self,Bool.false_or,↓DN,Qa,Qb,Qc,Qd,Qe,Qf,Qg,Qh,reduceCtorEq,↓reduceIte,Na,Nb,Nc,Nk,Nf,Ng,Nh,Za,Zb,Zc,TT,hq.h7,g10,w7,ZM,n7,n16,m7,P1,d7,d16,jw];refine ad (dG y 17 l2 (by omega) (by omega) _) ?_;rintro r sa ⟨rfl,rfl⟩;simp only[↓cx,↓bW,bE,↓bt,↓a8,dx,dt,aR,aV,aH,aL,List.any_cons,List.any_nil,DX,Nat.reduceBEq,↓DN,Qa,Qb,Qc,Qd,Qe,Qf,Qg,Qh,reduceCtorEq,↓reduceIte,Na,Nb,Nc,Nk,Nf,Ng,Nh,Za,Zb,Zc,TT,hq.h7,g10,w7,ZM,n7,n16,m7,P1,d7,d16,jw];refine ad (dG y 19 l2 (by omega) (by omega) _) ?_;rintro r sb ⟨rfl,rfl⟩;simp only[↓cx,↓bW,bE,↓bt,↓a8,dx,dt,aR,aV,aH,aL,List.any_cons,List.any_nil,DX,Nat.reduceBEq,↓DN,Qa,Qb,Qc,Qd,Qe,Qf,Qg,Qh,reduceCtorEq,↓reduceIte,Na,Nb,Nc,Nk,Nf,Ng,Nh,Za,Zb,Zc,TT,hq.h7,g10,w7,ZM,n7,n16,m7,P1,d7,d16,jw,y10,v1,v2,uh];refine ad (dG x 7 P2 (by omega) (by omega) _) ?_;rintro r sc ⟨rfl,rfl⟩;simp only[↓cx,↓bW,bE,↓bt,↓a8,dx,dt,aR,aV,aH,aL,List.any_cons,List.any_nil,DX,Nat.reduceBEq,↓DN,Qa,Qb,Qc,Qd,Qe,Qf,Qg,Qh,reduceCtorEq,↓reduceIte,Na,Nb,Nc,Nk,Nf,Ng,Nh,Za,Zb,Zc,TT,hq.h7,g10,w7,ZM,n7,n16,m7,P1,d7,d16,jw,y10,v1,v2,uh];refine ad (dG x 18 P2 (by omega) (by omega) _) ?_;rintro r sd ⟨rfl,rfl⟩;simp only[↓cx,↓bW,bE,↓bt,↓a8,dx,dt,aR,aV,aH,aL,List.any_cons,List.any_nil,DX,Nat.reduceBEq,↓DN,Qa,Qb,Qc,Qd,Qe,Qf,Qg,Qh,reduceCtorEq,↓reduceIte,Na,Nb,Nc,Nk,Nf,Ng,Nh,Za,Zb,Zc,TT,hq.h7,g10,w7,ZM,n7,n16,m7,P1,d7,d16,jw,x3,v3,v4,uh,iG,MM,cz,hlen];refine⟨by omega,hK _ _ ?_⟩;clear hK;simp only[aA,aq,if_true,if_false];refine kU _ _ ?_;clear kU K6;refine jD (Ai @g10 (cS t (by omega))) ?_;refine⟨⟨t+1,by omega,by omega,(by repeat(first |exact hk|exact hq|refine Kp.aB ?_ (by decide)|refine Kq.aB ?_ (by decide))),(by repeat(first |exact hk|exact hq|refine Kp.aB ?_ (by decide)|refine Kq.aB ?_ (by decide))),rfl,AS.af _ _ _,by rw[AS.ao _ hwh.symm];exact jh,AS.aF fM TX _⟩,?_⟩;simp only[g10,aB,↓reduceIte];omega
      ·have bJ:¬(t:Int)<64:=(by omega);obtain rfl:t=64:=(by omega);refine jB (Ai @g10 (decide_eq_false bJ)) ?_;refine jF ?_;refine aC ?_;simp only[aA,aq,if_true];clear ju K5;refine dM _ _ ?_;clear dM K4;have hk:Kp oh m pl (.own tk e) i (aB (aB E5 71 (AV.v (.int .i64 ((64:Nat):Int)))) 72 (AV.v (.bool false))):=(by repeat(first |exact hk|exact hq|refine Kp.aB ?_ (by decide)|refine Kq.aB ?_ (by decide)));have hq:Kq ow (aB (aB E5 71 (AV.v (.int .i64 ((64:Nat):Int)))) 72 (AV.v (.bool false))):=(by repeat(first |exact hk|exact hq|refine Kp.aB ?_ (by decide)|refine Kq.aB ?_ (by decide)));generalize (aB (aB E5 71 (AV.v (.int .i64 ((64:Nat):Int)))) 72 (AV.v (.bool false)))=E6 at *
       clear g10;rw[Fm] at jw;obtain⟨W,hW⟩:∃W,W=Sha.mq c 64:=⟨_,rfl⟩;have LA:W.length=64:=(by rw[hW,Sha.cH]);have P4:Sha.mix st c=st.add (Sha.rounds W st 64):=(by rw[hW];rfl);rw[←hW] at jw;have xiU:(eA st).length=8:=rfl;have xiV:List.take 8 (eA st)=eA st:=rfl;have xgK:=IA st;refine jS (Ai @hk.h3 @jh) fun K hK=>?_;intro tt htt;refine hK _ _ ?_;clear hK;have ZN:s.own tt=none:=by
        cases hs:s.own tt with
        |none=>rfl
        |some g=>rw[fM.own _ _ hs] at htt;cases htt
       have fY:s.le (s4.bA tt 0):=AS.bn fM ZN _;have jw5:(s4.bA tt 0).aw ow=some (W.map wV):=jw;have jh5:(s4.bA tt 0).aw oh=some (eA st):=jh;generalize s4.bA tt 0=s5 at *
       refine wK fun K4 dM=>?_;refine jA ?_;refine ag ?_;refine aD (fun E s3=>∃t:Nat,t≤64∧Kp oh m pl (.own tk e) i E∧Kq ow E∧(∃sp',Kr (eA (Sha.rounds W st t)) sp' E)∧E 14=.v (.int .i64 t)∧s3.aw ow=some (W.map wV)∧s3.aw oh=some (eA st)∧s.le s3)
        (fun E _=>match E 14 with |.v (.int _ x)=>64-x.toNat|_=>0) ?_ ?_
       ·exact⟨0,by omega,(by repeat(first |exact hk|exact hq|refine Kp.aB ?_ (by decide)|refine Kq.aB ?_ (by decide))),(by repeat(first |exact hk|exact hq|refine Kp.aB ?_ (by decide)|refine Kq.aB ?_ (by decide))),⟨.own tt 0,by refine Kr.aB ?_ (by decide);exact⟨rfl⟩⟩,rfl,jw5,jh5,fY⟩
       ·rintro E7 s6 ⟨t,ht,hk,hq,⟨sp',hv⟩,g14,jw,jh,nA⟩ -
        refine wK fun K5 ju=>?_;have la:=Sha.vl (w:=W) gS t;have xdj:Sha.rounds W st (t+1)=(Sha.rounds W st t).step (Sha.K.getD t 0) (W.getD t 0):=rfl;generalize hu:Sha.rounds W st t=u at *
        by_cases nF:t<64
        ·have bJ:(t:Int)<64:=(by omega);refine jB (Ai @g14 (decide_eq_true bJ)) ?_;refine jE ?_;refine ab ?_;refine ju _ _ ?_;clear ju K5;refine wK fun K6 kU=>?_;refine ag ?_;have iG:(0:Int)≤(t:Int):=(by omega);have MM:(t:Int)<((64:Nat):Int):=(by omega);have UO:=ZJ W t (by omega);have DG:=ZJ Sha.K t (by rw[show Sha.K.length=64 from rfl];omega);generalize W.getD t 0=wi at *
         generalize Sha.K.getD t 0=ki at *
         obtain⟨KL,hKL⟩:∃KL,KL=Sha.K.map wV:=⟨_,rfl⟩;obtain⟨WL,hWL⟩:∃WL,WL=W.map wV:=⟨_,rfl⟩;have g4:=hk.h4;rw[←hKL] at DG g4;rw[←hWL] at UO jw;have xdk:List.take 1 (List.drop t KL)=[wV ki]:=(by rw[DG];rfl);have g13:=hv.Mo;have Hq:∀{a b:Nat},a<4294967296→b<4294967296→a &&& b<4294967296:=fun{a b}ha hb=>Nat.lt_of_le_of_lt Nat.and_le_left ha;have ZC:∀{a b:Nat},a<4294967296→b<4294967296→a ^^^ b<4294967296:=fun{a b}ha hb=>Nat.xor_lt_two_pow (n:=32) ha hb;have hn:4294967295-u.e<4294967296:=(by omega);have z1:=pd _ _ (Sha.cp 6 la.e) (Sha.cp 11 la.e);have z2:=pd _ _ (ZC (Sha.cp 6 la.e) (Sha.cp 11 la.e)) (Sha.cp 25 la.e);have z3:(Sha.my u.e 6 ^^^ Sha.my u.e 11) ^^^ Sha.my u.e 25=Sha.Mx u.e 6 11 25:=rfl;rw[z3] at z2;have z4:=pd _ _ (Sha.cp 2 la.a) (Sha.cp 13 la.a);have z5:=pd _ _ (ZC (Sha.cp 2 la.a) (Sha.cp 13 la.a)) (Sha.cp 22 la.a);have z6:(Sha.my u.a 2 ^^^ Sha.my u.a 13) ^^^ Sha.my u.a 22=Sha.Mx u.a 2 13 22:=rfl;rw[z6] at z5;refine ef T.mixed [(ow,WL)] [6,10,15] [43] [] (by kernel_rfl) (by simp only[aH,aL,and_true];simp[AS.set,aB,jw]) ?_;intro K hK;simp only[↓bt,↓a8,dx,dt,aR,aV,aH,aL,List.any_cons,List.any_nil,List.contains_cons,List.contains_nil,Nat.reduceBEq,Bool.or_false,Bool.or_true,Bool.or_self,Bool.false_or,↓DN,Qa,Qb,Qc,Qd,Qe,Qf,Qg,Qh,reduceCtorEq,↓reduceIte,Na,Nb,Nc,Nk,Nf,Ng,Nh,Za,Zb,Zc,TT,g13,c8,hq.h7,g14,g4,jw];refine ad (dG u.e 6 la.e (by omega) (by omega) _) ?_;rintro r sa ⟨rfl,rfl⟩;simp only[↓cx,↓bW,bE,↓bt,↓a8,dx,dt,aR,aV,aH,aL,List.any_cons,List.any_nil,DX,Nat.reduceBEq,↓DN,Qa,Qb,Qc,Qd,Qe,Qf,Qg,Qh,reduceCtorEq,↓reduceIte,Na,Nb,Nc,Nk,Nf,Ng,Nh,Za,Zb,Zc,TT,g13,c8,hq.h7,g14,g4,jw];refine ad (dG u.e 11 la.e (by omega) (by omega) _) ?_;rintro r sb ⟨rfl,rfl⟩;simp only[↓cx,↓bW,bE,↓bt,↓a8,dx,dt,aR,aV,aH,aL,List.any_cons,List.any_nil,DX,Nat.reduceBEq,↓DN,Qa,Qb,Qc,Qd,Qe,Qf,Qg,Qh,reduceCtorEq,↓reduceIte,Na,Nb,Nc,Nk,Nf,Ng,Nh,Za,Zb,Zc,TT,g13,c8,hq.h7,g14,g4,jw,z1];refine ad (dG u.e 25 la.e (by omega) (by omega) _) ?_;rintro r sc ⟨rfl,rfl⟩;simp only[↓cx,↓bW,bE,↓bt,↓a8,dx,dt,aR,aV,aH,aL,List.any_cons,List.any_nil,DX,Nat.reduceBEq,↓DN,Qa,Qb,Qc,Qd,Qe,Qf,Qg,Qh,reduceCtorEq,↓reduceIte,Na,Nb,Nc,Nk,Nf,Ng,Nh,Za,Zb,Zc,TT,g13,c8,hq.h7,g14,g4,jw,z1,z2,xdk,UO,iG,MM,uh,As u.e u.f la.e la.f,ZA u.e la.e,As (4294967295-u.e) u.g hn la.g,pd (u.e &&& u.f) ((4294967295-u.e) &&& u.g) (Hq la.e la.f) (Hq hn la.g)];refine hK _ _ ?_;clear hK K;refine bj T.mixed [3,7,12] (by kernel_rfl) ?_;intro K hK;refine jN (Ai @g13 @c8) ?_;refine ad (dG u.a 2 la.a (by omega) (by omega) _) ?_;rintro r sa ⟨rfl,rfl⟩;refine jN (Ai @g13 @c8) ?_;refine ad (dG u.a 13 la.a (by omega) (by omega) _) ?_;rintro r sb ⟨rfl,rfl⟩;refine jN (Ai @g13 (Ai @c8 @z4)) ?_;refine ad (dG u.a 22 la.a (by omega) (by omega) _) ?_;rintro r sc ⟨rfl,rfl⟩;refine jV (Ai @g13 (Ai @c8 (Ai @z4 (Ai @z5 (Ai @uh (Ai (As u.a u.b la.a la.b) (Ai (As u.a u.c la.a la.c) (Ai (As u.b u.c la.b la.c) (Ai (pd (u.a &&& u.b) (u.a &&& u.c) (Hq la.a la.b) (Hq la.a la.c)) (pd ((u.a &&& u.b) ^^^ (u.a &&& u.c)) (u.b &&& u.c) (ZC (Hq la.a la.b) (Hq la.a la.c)) (Hq la.b la.c))))))))))) hK ?_;clear hK K;refine fw T.mixed [] (by kernel_rfl) ?_;intro K hK;refine jV (Ai @g13 (Ai @c8 (Ai @uh @xdf))) hK ?_;clear hK K;simp only[aA,aq,if_true,if_false];refine kU _ _ ?_;clear kU K6;refine jD (Ai @g14 (cS t (by omega))) ?_;refine⟨⟨t+1,by omega,(by repeat(first |exact hk|exact hq|refine Kp.aB ?_ (by decide)|refine Kq.aB ?_ (by decide))),(by repeat(first |exact hk|exact hq|refine Kp.aB ?_ (by decide)|refine Kq.aB ?_ (by decide))),⟨.new,?_⟩,rfl,by rw[jw,hWL],jh,nA⟩,?_⟩
         ·repeat(first |refine Kr.aB ?_ (by decide))
          refine⟨?_⟩;simp only[aB,↓reduceIte];rw[xdj];rfl
         ·simp only[g14,aB,↓reduceIte];omega
        ·have bJ:¬(t:Int)<64:=(by omega);obtain rfl:t=64:=(by omega);refine jB (Ai @g14 (decide_eq_false bJ)) ?_;refine jF ?_;refine aC ?_;simp only[aA,aq,if_true];clear ju K5;refine dM _ _ ?_;clear dM K4;have hk:Kp oh m pl (.own tk e) i (aB (aB E7 120 (AV.v (.int .i64 ((64:Nat):Int)))) 121 (AV.v (.bool false))):=(by repeat(first |exact hk|exact hq|refine Kp.aB ?_ (by decide)|refine Kq.aB ?_ (by decide)));have hv:Kr (eA u) sp' (aB (aB E7 120 (AV.v (.int .i64 ((64:Nat):Int)))) 121 (AV.v (.bool false))):=(by repeat(first |exact hk|exact hq|exact hv|refine Kp.aB ?_ (by decide)|refine Kq.aB ?_ (by decide)|refine Kr.aB ?_ (by decide)));generalize (aB (aB E7 120 (AV.v (.int .i64 ((64:Nat):Int)))) 121 (AV.v (.bool false)))=E8 at *
         clear g14;rw[hu] at P4;rw[←BF st u] at jh;refine jA ?_;refine ag ?_;refine aD (fun E s3=>∃t:Nat,t≤8∧Kp oh m pl (.own tk e) i E∧Kr (eA u) sp' E∧E 17=.v (.int .i64 t)∧s3.aw oh=some (yZ st u t)∧s.le s3)
          (fun E _=>match E 17 with |.v (.int _ x)=>8-x.toNat|_=>0) ?_ ?_
         ·exact⟨0,by omega,(by repeat(first |exact hk|exact hq|refine Kp.aB ?_ (by decide)|refine Kq.aB ?_ (by decide))),(by repeat(first |exact hk|exact hq|exact hv|refine Kp.aB ?_ (by decide)|refine Kq.aB ?_ (by decide)|refine Kr.aB ?_ (by decide))),rfl,jh,nA⟩
         ·rintro E9 s7 ⟨t,ht,hk,hv,g17,jh,ss⟩ -
          refine wK fun K5 ju=>?_;by_cases nF:t<8
          ·have bJ:(t:Int)<8:=(by omega);refine jB (Ai @g17 (decide_eq_true bJ)) ?_;refine jE ?_;refine ab ?_;refine ju _ _ ?_;clear ju K5;refine wK fun K6 kU=>?_;refine ag ?_;have iG:(0:Int)≤(t:Int):=(by omega);have d2:=BH st u t nF;have d5:=y7 u t nF;have cz:=Fq st u t nF;have hlen:=Fp st u t ht;generalize st.list.getD t 0=x at *
           generalize u.list.getD t 0=y at *
           have g13:=hv.Mo;obtain⟨X,hX⟩:∃X,X=yZ st u t:=⟨_,rfl⟩;rw[←hX] at d2 cz hlen jh;obtain⟨Y,hY⟩:∃Y,Y=eA u:=⟨_,rfl⟩;rw[←hY] at d5 g13;have d51:List.take 1 (List.drop t Y)=[wV y]:=(by rw[d5];rfl);refine cV T.mixed [(oh,X)] [] [5] [12] (by kernel_rfl) (by simp only[aH,aL,and_true];simp[AS.set,aB,jh]) ?_;intro K hK;simp only[↓bt,↓a8,dx,dt,aR,aV,aH,aL,List.any_cons,List.any_nil,List.contains_cons,List.contains_nil,Nat.reduceBEq,Bool.or_false,Bool.or_true,Bool.or_self,Bool.false_or,↓DN,Qa,Qb,Qc,Qd,Qe,Qf,Qg,Qh,reduceCtorEq,↓reduceIte,Na,Nb,Nc,Nk,Nf,Ng,Nh,Za,Zb,Zc,TT,hk.h3,g17,g13,c8,iG,bJ,d2,d51,jh,uh,cz,hlen];refine⟨by omega,hK _ _ ?_⟩;clear hK;simp only[aA,aq,if_true,if_false];refine kU _ _ ?_;clear kU K6;refine jD (Ai @g17 (cS t (by omega))) ?_;refine⟨⟨t+1,by omega,(by repeat(first |exact hk|exact hq|refine Kp.aB ?_ (by decide)|refine Kq.aB ?_ (by decide))),(by repeat(first |exact hk|exact hq|exact hv|refine Kp.aB ?_ (by decide)|refine Kq.aB ?_ (by decide)|refine Kr.aB ?_ (by decide))),rfl,AS.af _ _ _,AS.aF ss hoh _⟩,?_⟩;simp only[g17,aB,↓reduceIte];omega
          ·have bJ:¬(t:Int)<8:=(by omega);obtain rfl:t=8:=(by omega);refine jB (Ai @g17 (decide_eq_false bJ)) ?_;refine jF ?_;refine aC ?_;simp only[aA,aq,if_true,if_false];refine bq _ _ ?_;clear bq ju K3 K5;have h6:=hk.h6;have P7:dQ .i64 ((64*i:Nat):Int) 64=((64*(i+1):Nat):Int):=gg (64*i) 64 (by omega);refine jD (Ai @h6 @P7) ?_;rw[BG,←P4,←RC] at jh;refine⟨⟨i+1,aY,⟨by simp only[aB,hk.h3,Nc,↓reduceIte],by simp only[aB,hk.h4,Nc,↓reduceIte],by simp only[aB,hk.h5,Nc,↓reduceIte],rfl⟩,jh,ss⟩,?_⟩;simp only[aB,↓reduceIte,Int.toNat_natCast,ZE];omega
  ·have bJ:¬((64*i:Nat):Int)<((64*m:Nat):Int):=(by omega);obtain rfl:i=m:=(by omega);refine jB (Ai @e6 (Ai @hk.h5 (decide_eq_false bJ))) ?_;refine jF ?_;refine aC ?_;simp only[aA,aq,if_true];clear aU K2;refine hK _ _ ?_;clear hK K;have h3:=hk.h3;generalize Sha.hash pl i=u at *
   refine jA ?_;refine wK fun K hK=>?_;refine jA ?_;refine ag ?_;refine aD (fun E s3=>∃t:Nat,t≤8∧E 3=.ig oh 0 1 8 8∧E 19=.v (.int .i64 t)∧s3.aw oh=some (eA u)∧dS s2 (J0 u t) (E 18) s3)
    (fun E _=>match E 19 with |.v (.int _ x)=>8-x.toNat|_=>0) ?_ ?_
   ·exact⟨0,by omega,h3,rfl,ho,AS.le.refl s2,.inl ⟨rfl,rfl⟩⟩
   ·rintro E3 s3 ⟨t,ht,g3,g19,jh,y9⟩ -
    refine wK fun K5 ju=>?_;by_cases nF:t<8
    ·have bJ:(t:Int)<8:=(by omega);have iG:(0:Int)≤(t:Int):=(by omega);refine jB (Ai @g19 (decide_eq_true bJ)) ?_;refine jE ?_;refine ab ?_;refine ju _ _ ?_;clear ju K5;refine wK fun K6 kU=>?_;refine ag ?_;have d5:=y7 u t nF;have uj:=BK u t nF;have P9:=Fx u t ht;generalize u.list.getD t 0=x at *
     have Lo:eU .u32 (x:Int) 24=((x/2^24:Nat):Int):=vm x 24 (by decide);have Iv:eU .u32 (x:Int) 16=((x/2^16:Nat):Int):=vm x 16 (by decide);have s8:eU .u32 (x:Int) 8=((x/2^8:Nat):Int):=vm x 8 (by decide);generalize uk:E3 18=r6 at y9;obtain⟨X,hX⟩:∃X,X=eA u:=⟨_,rfl⟩;rw[←hX] at d5 jh;refine cV T.mixed [(oh,X)] [25] [4,10,16,22] [] (by kernel_rfl) (by simp only[aH,aL,and_true];simp[AS.set,aB,jh]) ?_;intro K hK;simp only[↓bt,↓a8,dx,dt,aR,aV,aH,aL,List.any_cons,List.any_nil,List.contains_cons,List.contains_nil,Nat.reduceBEq,Bool.or_false,Bool.or_true,Bool.or_self,Bool.false_or,↓DN,Qa,Qb,Qc,Qd,Qe,Qf,Qg,Qh,reduceCtorEq,↓reduceIte,Na,Nb,Nc,Nk,Nf,Ng,Nh,Za,Zb,Zc,TT,g3,g19,c8,iG,bJ,d5,jh,Lo,Iv,s8,ZF,uk];refine dk (ds:=Sha.be x) y9 rfl (by simp only[Sha.be,List.map_cons,List.map_nil,xk]) T.c5 T.b5 (by rw[P9];simp only[Sha.be,List.length_cons,List.length_nil];omega) ?_;intro r2 s6 h6;rw[uj] at h6;refine⟨by rw[hX];exact h6.1.aw _ _ ho,hK _ _ ?_⟩;clear hK;simp only[aA,aq,if_true,if_false];refine kU _ _ ?_;clear kU K6;refine jD (Ai @g19 (cS t (by omega))) ?_;refine⟨⟨t+1,by omega,g3,rfl,h6.1.aw _ _ ho,by simpa only[aB,Nc,↓reduceIte] using h6⟩,?_⟩;simp only[g19,aB,↓reduceIte];omega
    ·have bJ:¬(t:Int)<8:=(by omega);obtain rfl:t=8:=(by omega);refine jB (Ai @g19 (decide_eq_false bJ)) ?_;refine jF ?_;refine aC ?_;simp only[aA,aq,if_true];clear ju K5;refine hK _ _ ?_;clear hK K;rw[BL,OL] at y9;obtain⟨tz,ez,Vi⟩:=cv y9 (by rw[←List.length_pos_iff,Sha.du];decide);refine jB @Vi ?_;refine jI ?_;exact⟨_,s,AV.aE.refl _,AS.le.trans hle y9.1,rfl,rfl⟩
theorem OU:ai prog 235=true:=by kernel_rfl
theorem OV:ai prog 237=true:=by kernel_rfl
theorem OW:ai prog 163=true:=by kernel_rfl
theorem eP(k:Nat)(n:Int)(st:List UInt8×Bool):(bm k n st).1.length≤st.1.length+k:=by
 unfold bm ei;split
 ·split
  ·omega
  ·simp
 ·simp only;omega
theorem Ax(number:Int)(hn: -9223372036854775808≤number∧number≤9223372036854775807)(N:ah)(hl:N.iA.length≤2^61)(s0 s:AS)(p:Nat)(st:List UInt8×Bool)(gS:st.1.length≤100)(h:gj s0 s p st):
  aj prog Γ 235 [.ptr p 0,.cN [.v (.int .i64 number)],.cN N.cells] s (fun r s'=>r=.eu []∧gj s0 s' p (dB N (bm 4 number st))):=by
 refine aa func235 rfl ntmps235 results235 (by simp) ?_;have hw:=oS (Γ:=Γ) N hl;unfold ah.cells at *
 refine jQ fun K hK=>?_;refine ad (tX s0 s p st number hn (by omega) h) ?_;rintro r s1 ⟨rfl,h1⟩;refine jR hK ?_;clear hK K;have hl4:=eP 4 number st;refine jU @aG.eq_1 fun K hK=>?_;refine ad (hw s0 s1 p _ (by omega) h1) ?_;rintro r s2 ⟨rfl,h2⟩;refine jR hK ?_;clear hK K;simp only[ck,bz,bF,dm,List.toList_toArray,↓bg];try simp only[UP,DF,Nc,↓reduceIte,DT]
 exact jW ⟨rfl,h2⟩
theorem wT(N:ah)(hl:N.iA.length≤2^61)(s0 s:AS)(p:Nat)(st:List UInt8×Bool)(gS:st.1.length≤100)(h:gj s0 s p st):
  aj prog Γ 237 [.ptr p 0,.cN N.cells] s (fun r s'=>r=.eu []∧gj s0 s' p (dB N st)):=by
 refine aa func237 rfl ntmps237 results237 (by simp) ?_;have hw:=oS (Γ:=Γ) N hl;unfold ah.cells at *
 refine jU @aG.eq_1 fun K hK=>?_;refine ad (hw s0 s p _ (by omega) h) ?_;rintro r s2 ⟨rfl,h2⟩;refine jR hK ?_;clear hK K;simp only[ck,bz,bF,dm,List.toList_toArray,↓bg];try simp only[UP,DF,Nc,↓reduceIte,DT]
 exact jW ⟨rfl,h2⟩
theorem wU(N:ah)(hk:N.key<2^64)(hp:N.parent.length≤100)(s0 s:AS)(p:Nat)(st:List UInt8×Bool)(gS:st.1.length≤100)(h:gj s0 s p st):
  aj prog Γ 163 [.ptr p 0,.cN N.cells] s (fun r s'=>r=.eu []∧gj s0 s' p (dz 1 N.parent (ei 8 N.key st))):=by
 refine aa func163 rfl ntmps163 results163 (by simp) ?_;have Bn:(ei 8 N.key st).1.length≤st.1.length+8:=(by unfold ei;split;omega;simp);obtain⟨k,m,y,pa,u⟩:=N;simp only at hk hp Bn;unfold ah.cells at *
 refine jQ fun K hK=>?_;refine ad (lr s0 s p st y hk (by omega) h) ?_;rintro r s1 ⟨rfl,h1⟩;refine jR hK ?_;clear hK K;refine jU @aG.eq_1 fun K hK=>?_;refine ad (fJ s0 s1 p _ (al pa .any) pa (.inr ⟨_,rfl⟩) (by omega) h1) ?_;rintro r s2 ⟨rfl,h2⟩;refine jR hK ?_;clear hK K;simp only[ck,bz,bF,dm,List.toList_toArray,↓bg];try simp only[UP,DF,Nc,↓reduceIte,DT]
 exact jW ⟨rfl,h2⟩
theorem mj(mark:Nat)(hm:mark<256)(k:FuncId)(cg:List AV)(hk:ai prog k=true)(F:List UInt8×Bool)
  (hF:∀s0 s p,gj s0 s p ([UInt8.ofNat mark],false)→aj prog Γ k (.ptr p 0::cg) s (fun r s'=>r=.eu []∧gj s0 s' p F)) (hl:F.1.length≤2^45) (s:AS):
  aj prog Γ 162 [.v (.int .i64 (mark:Int)),.qE k cg] s (fun r s'=>r=.eu [al (if F.2=true then[] else F.1) .any,.v (.bool !F.2)]∧s'=s):=by
 refine aa func162 rfl ntmps162 results162 (by simp) ?_;have h0:bm 1 (mark:Int) ([],false)=([UInt8.ofNat mark],false):=by
  unfold bm;rw[if_pos ⟨by omega,by omega⟩];simp[ei,be]
 refine jA ?_;refine jQ fun K hK=>?_;refine ad (qC s) ?_;rintro r s1 ⟨p,rfl,q1⟩;refine jR hK ?_;clear hK K;refine jQ fun K hK=>?_;refine ad (fI s s1 p ([],false) (mark:Int) (by omega) (by simp) q1) ?_;rintro r s2 ⟨rfl,q2⟩;rw[h0] at q2;refine jR hK ?_;clear hK K;refine wS fun K hK=>?_;simp only[↓DN,Qa,Qb,Qc,Qd,Qe,Qf,Qg,Qh,reduceCtorEq,↓reduceIte,Na,Nb,Nc,Nk,Nf,Ng,Nh,Za,Zb,Zc,TT,hk];refine ad (hF s s2 p q2) ?_;rintro r s3 ⟨rfl,q3⟩;refine jR hK ?_;clear hK K;refine jK (iS s s3 p _ hl q3) ?_;rintro s4 rfl;refine jI ?_;exact⟨_,s,AV.aE.refl _,q3.le,rfl,rfl⟩
def za(number:Int)(N:ah):List UInt8:=1::(be 4 number.toNat++N.text)
def xl(N:ah)(l r:List UInt8):List UInt8:=2::(N.text++(l++r))
def qD(N:ah)(b:List UInt8):List UInt8:=3::(be 8 N.key++((be 1 N.parent.length++N.parent)++b))
def zb(number:Int)(N:ah):List UInt8:=if N.right∧0≤number∧number<32 then Sha.sum (za number N) else[]
def ou(N:ah)(l r:List UInt8):List UInt8:=if N.right then Sha.sum (xl N l r) else[]
def od(N:ah)(b:List UInt8):List UInt8:=if N.right∧N.kind=2 then Sha.sum (qD N b) else[]
theorem Ay(number:Int)(N:ah)(hr:N.right)(h0:0≤number)(h1:number<4294967296):dB N (bm 4 number ([1],false))=(za number N,false):=by
 unfold dB bm;rw[if_pos hr,if_pos ⟨h0,by omega⟩];simp[ei,ej,za]
theorem De(number:Int)(N:ah)(h:¬(N.right∧0≤number∧number<4294967296)):(dB N (bm 4 number ([1],false))).2=true:=by
 unfold dB;by_cases hr:N.right
 ·rw[if_pos hr];have :¬(0≤number∧number<2^(8*4)):=fun e=>h ⟨hr,e.1,by have:=e.2;omega⟩;unfold bm;rw[if_neg this];rfl
 ·rw[if_neg hr]
theorem we(N:ah)(st:List UInt8×Bool):(dB N st).1.length≤st.1.length+100:=by
 unfold dB;split
 ·rename_i hr;have:=ah.nj hr;have:=xY N.text st;omega
 ·simp only;omega
theorem zc(dU:Γ 0=eA Sha.H0)(hG:Γ 1=Sha.K.map wV)(number:Int)(hn: -9223372036854775808≤number∧number≤9223372036854775807)(N:ah)(hl:N.iA.length≤2^61)(s:AS):
  aj prog Γ 201 [.v (.int .i64 number),.agg N.cells] s (fun r s'=>r=al (zb number N) .any∧s'=s):=by
 refine aa func201 rfl ntmps201 results201 (by simp) ?_;have gw:=fun s0 s p hp=>Ax (Γ:=Γ) number hn N hl s0 s p ([1],false) (by decide) hp;have hlen:(dB N (bm 4 number ([1],false))).1.length≤2^45:=by
  have h1:=we N (bm 4 number ([1],false));have h2:=eP 4 number ([1],false);simp only[List.length_cons,List.length_nil] at h2;omega
 have R4:=fun s=>mj (Γ:=Γ) 1 (by decide) _ _ OU _ gw hlen s;have eY:=Ay number N;have fW:=De number N;have hD:zb number N=if N.right∧0≤number∧number<32 then Sha.sum (za number N) else[]:=rfl
 have hBl:N.right→(za number N).length≤105:=(fun hr=>by have:=ah.nj hr;simp[za];omega);clear gw;generalize dB N (bm 4 number ([1],false))=F at *
 generalize zb number N=D at *
 generalize za number N=B at *
 unfold ah.cells at *
 refine iw 2 3 (by decide) (by decide) (by decide) ?_;intro K hK;refine jN @aG.eq_1 ?_;intro o1 h1 o2 h2;refine hK _ _ o1 o2 _ _ rfl rfl h1 (by rw[AS.gW];exact h2) ?_;clear hK K h1 h2;refine jS @aG.eq_1 fun K hK=>?_;refine ad (R4 _) ?_;rintro r s1 ⟨rfl,rfl⟩;by_cases hg:N.right∧0≤number∧number<4294967296
 ·have hF:=eY hg.1 hg.2.1 hg.2.2;rw[hF];refine jR hK ?_;clear hK K;refine wK fun K hK=>?_;by_cases qH:number<32
  ·refine jB (decide_eq_false (show ¬(32:Int)≤number by omega)) ?_;refine jF ?_;refine ab ?_;refine hK _ _ ?_;clear hK K;have R6:D=Sha.sum B:=(by rw[hD,if_pos ⟨hg.1,hg.2.1,qH⟩]);have Hs:=hBl hg.1;have JN:=lD (Γ:=Γ) dU hG [B] .new (by simp) (by simp;omega) s1;rw[show[B].flatten=B from by simp,←R6] at JN;refine wS fun K hK=>?_;simp only[↓DN,Qa,Qb,Qc,Qd,Qe,Qf,Qg,Qh,reduceCtorEq,↓reduceIte,Na,Nb,Nc,Nk,Nf,Ng,Nh,Za,Zb,Zc,TT,List.replicate_one];refine ad JN ?_;intro r s2 bB;have tG:D.length=32:=(by rw[R6];exact Sha.du B);have hw:=bB.aE;have hle:=bB.1;obtain⟨t,e,rfl⟩:=cv bB (by rw[←List.length_pos_iff,tG];decide);refine jR hK ?_;clear hK K;refine jI ?_;exact⟨_,s1,hw,hle,rfl,rfl⟩
  ·refine jB (decide_eq_true (show(32:Int)≤number by omega)) ?_;refine jE ?_;refine jA ?_;refine jI ?_;refine⟨al [] .any,_,AV.aM,AS.le.refl _,?_,rfl⟩;rw[hD,if_neg (fun h=>qH h.2.2)];rfl
 ·have hF:=fW hg;rw[hF];refine jR hK ?_;clear hK K;refine wK fun K hK=>?_;refine jA ?_;refine jE ?_;refine jA ?_;refine jI ?_;refine⟨al [] .any,_,AV.aM,AS.le.refl _,?_,rfl⟩;rw[hD,if_neg (fun h=>hg ⟨h.1,h.2.1,by omega⟩)];rfl
theorem Ht(a b c:List UInt8):gu [a,b,c]=[al a .any,al b .any,al c .any]:=rfl
theorem Hu(a b:List UInt8):gu [a,b]=[al a .any,al b .any]:=rfl
theorem vo(dU:Γ 0=eA Sha.H0)(hG:Γ 1=Sha.K.map wV)(N:ah)(hl:N.iA.length≤2^61)(x y:List UInt8)(VE:x.length+y.length≤2^30)(s:AS):
  aj prog Γ 202 [.agg N.cells,al x .any,al y .any] s (fun r s'=>r=al (ou N x y) .any∧s'=s):=by
 refine aa func202 rfl ntmps202 results202 (by simp) ?_;have gw:=fun s0 s p hp=>wT (Γ:=Γ) N hl s0 s p ([2],false) (by decide) hp;have hlen:(dB N ([2],false)).1.length≤2^45:=by
  have h1:=we N ([2],false);simp only[List.length_cons,List.length_nil] at h1;omega
 have R4:=fun s=>mj (Γ:=Γ) 2 (by decide) _ _ OV _ gw hlen s;have hD:ou N x y=if N.right then Sha.sum (xl N x y) else[]:=rfl
 have hB:xl N x y=(2::N.text)++(x++y):=rfl;have hT:=fun hr=>ah.nj (N:=N) hr;have eY:N.right→dB N ([2],false)=(2::N.text,false):=(fun hr=>by unfold dB;rw[if_pos hr];rfl);have fW:¬N.right→(dB N ([2],false)).2=true:=(fun hr=>by unfold dB;rw[if_neg hr]);clear gw;generalize dB N ([2],false)=F at *
 generalize ou N x y=D at *
 generalize xl N x y=B at *
 have TY:N.right→(2::N.text).length≤101:=(fun hr=>by have:=hT hr;simp;omega);generalize (2::N.text)=pre at *
 unfold ah.cells at *
 refine aX 3 (by simp[cC]) ?_;intro K hK;refine jN @aG.eq_1 ?_;intro o ho;refine hK _ _ o _ rfl ho ?_;clear hK K ho;refine jS @aG.eq_1 fun K hK=>?_;refine ad (R4 _) ?_;rintro r s1 ⟨rfl,rfl⟩;by_cases hg:N.right
 ·rw[eY hg];refine jR hK ?_;clear hK K;refine wK fun K hK=>?_;refine jA ?_;refine jF ?_;refine ab ?_;refine hK _ _ ?_;clear hK K;have R6:D=Sha.sum B:=(by rw[hD,if_pos hg]);have xz:=TY hg;have JN:=lD (Γ:=Γ) dU hG [pre,x,y] .new (by simp) (by simp;omega) s1;rw[show[pre,x,y].flatten=B from by rw[hB];simp,←R6,Ht] at JN;refine wS fun K hK=>?_;simp only[↓DN,Qa,Qb,Qc,Qd,Qe,Qf,Qg,Qh,reduceCtorEq,↓reduceIte,Na,Nb,Nc,Nk,Nf,Ng,Nh,Za,Zb,Zc,TT,List.replicate_succ,List.replicate_zero];refine ad JN ?_;intro r s2 bB;have tG:D.length=32:=(by rw[R6];exact Sha.du B);have hw:=bB.aE;have hle:=bB.1;obtain⟨t,e,rfl⟩:=cv bB (by rw[←List.length_pos_iff,tG];decide);refine jR hK ?_;clear hK K;refine jI ?_;exact⟨_,s1,hw,hle,rfl,rfl⟩
 ·rw[fW hg];refine jR hK ?_;clear hK K;refine wK fun K hK=>?_;refine jA ?_;refine jE ?_;refine jA ?_;refine jI ?_;refine⟨al [] .any,_,AV.aM,AS.le.refl _,?_,rfl⟩;rw[hD,if_neg hg];rfl
theorem vp(dU:Γ 0=eA Sha.H0)(hG:Γ 1=Sha.K.map wV)(N:ah)(hl:N.iA.length≤2^61)(x:List UInt8)(hx:x.length≤2^30)(s:AS):
  aj prog Γ 113 [.agg N.cells,al x .any] s (fun r s'=>r=al (od N x) .any∧s'=s):=by
 refine aa func113 rfl ntmps113 results113 (by simp) ?_;have hD:od N x=if N.right∧N.kind=2 then Sha.sum (qD N x) else[]:=rfl
 have hB:qD N x=(3::(be 8 N.key++(be 1 N.parent.length++N.parent)))++x:=(by simp[qD]);have T1:=fun s=>kO (Γ:=Γ) N hl s;have MN:N.right→N.kind=2→N.key<2^64∧N.parent.length≤32:=by
  intro hr hk;have :N.held:=by
   unfold ah.right at hr;rw[hk] at hr;simp at hr;exact hr.2.1
  obtain⟨_,h2,h3⟩:=this;exact⟨by omega,by omega⟩
 have gw:=fun hk hp s0 s p hq=>wU (Γ:=Γ) N hk hp s0 s p ([3],false) (by decide) hq;have hF:N.right→N.kind=2→dz 1 N.parent (ei 8 N.key ([3],false))=(3::(be 8 N.key++(be 1 N.parent.length++N.parent)),false):=by
  intro hr hk;have:=(MN hr hk).2;unfold dz bm;rw[if_pos ⟨by omega,by omega⟩];simp[ei,ej]
 generalize dz 1 N.parent (ei 8 N.key ([3],false))=F at *
 have TY:N.right→N.kind=2→(3::(be 8 N.key++(be 1 N.parent.length++N.parent))).length≤100:=(fun hr hk=>by have:=(MN hr hk).2;simp;omega);generalize (3::(be 8 N.key++(be 1 N.parent.length++N.parent)))=pre at *
 generalize od N x=D at *
 generalize qD N x=B at *
 unfold ah.cells at *
 obtain⟨k,m,y,pa,u⟩:=N;simp only at *
 refine aX 2 (by simp[cC]) ?_;intro K hK;refine jN @aG.eq_1 ?_;intro o ho;refine hK _ _ o _ rfl ho ?_;clear hK K ho;refine wK fun K hK=>?_;by_cases hk:k=2
 ·refine jS (Ai @aG.eq_1 (gK hk)) fun K hK=>?_;refine ad (T1 _) ?_;rintro r s1 ⟨rfl,rfl⟩;by_cases hg:ah.right ⟨k,m,y,pa,u⟩
  ·rw[decide_eq_true hg];refine jR hK ?_;clear hK K;refine jF ?_;refine ab ?_;refine hK _ _ ?_;clear hK K;obtain⟨q1,q2⟩:=MN hg hk;have hFF:=hF hg hk;have xz:=TY hg hk;have R4:=fun s=>mj (Γ:=Γ) 3 (by decide) _ _ OW _ (gw q1 (by omega)) (by rw[hFF];simp only;omega) s;rw[hFF] at R4;refine jS @aG.eq_1 fun K hK=>?_;refine ad (R4 _) ?_;rintro r s2 ⟨rfl,rfl⟩;refine jR hK ?_;clear hK K;have R6:D=Sha.sum B:=(by rw[hD,if_pos ⟨hg,hk⟩]);have JN:=lD (Γ:=Γ) dU hG [pre,x] .new (by simp) (by simp;omega) s2;rw[show[pre,x].flatten=B from by rw[hB];simp,←R6,Hu] at JN;refine wS fun K hK=>?_;simp only[↓DN,Qa,Qb,Qc,Qd,Qe,Qf,Qg,Qh,reduceCtorEq,↓reduceIte,Na,Nb,Nc,Nk,Nf,Ng,Nh,Za,Zb,Zc,TT,List.replicate_succ,List.replicate_zero];refine ad JN ?_;intro r s3 bB;have tG:D.length=32:=(by rw[R6];exact Sha.du B);have hw:=bB.aE;have hle:=bB.1;obtain⟨t,e,rfl⟩:=cv bB (by rw[←List.length_pos_iff,tG];decide);refine jR hK ?_;clear hK K;refine jI ?_;exact⟨_,s2,hw,hle,rfl,rfl⟩
  ·rw[decide_eq_false hg];refine jR hK ?_;clear hK K;refine jE ?_;refine jA ?_;refine jI ?_;refine⟨al [] .any,_,AV.aM,AS.le.refl _,?_,rfl⟩;rw[hD,if_neg (fun h=>hg h.1)];rfl
 ·refine jB (Ai @aG.eq_1 (gb hk)) ?_;refine jE ?_;refine jA ?_;refine jI ?_;refine⟨al [] .any,_,AV.aM,AS.le.refl _,?_,rfl⟩;rw[hD,if_neg (fun h=>hk h.2)];rfl
def jd(t:List ah):Nat→Nat→List UInt8
 |0,n=>zb ((n/2:Nat):Int) (nd t n)
 |l+1,n=>ou (nd t n) (jd t l (n-2^l)) (jd t l (n+2^l))
theorem vq(t:List ah):∀l n,(jd t l n).length≤32
 |0,n=>by
  unfold jd zb;split
  ·rw[Sha.du];exact Nat.le_refl _
  ·simp
 |l+1,n=>by
  unfold jd ou;split
  ·rw[Sha.du];exact Nat.le_refl _
  ·simp
theorem Df(dU:Γ 0=eA Sha.H0)(gy:Γ 1=Sha.K.map wV)(hG:Γ 3=fi.map oJ)(t:List ah)(ht:eI t):∀(l n:Nat),lv n=l→n<63→n+2^l≤t.length→∀s,
  aj prog Γ 165 [aW t,.v (.int .i64 n)] s (fun r s'=>r=al (jd t l n) .any∧s'=s):=by
 intro l;induction l with
 |zero=>
  intro n hl hn hs s;refine aa func165 rfl ntmps165 results165 (by simp) ?_;have qL:=fun s=>iE (Γ:=Γ) hG (n:Int) (by omega) s;rw[vg hn hl] at qL;have hi:n<t.length:=(by have :(2:Nat)^0=1:=rfl;omega);have cT:=dh hi;have hH:=fun s=>zc (Γ:=Γ) dU gy ((n/2:Nat):Int) (by omega) (nd t n) (ht.nd n).1 s;have dV:jd t 0 n=zb ((n/2:Nat):Int) (nd t n):=rfl;rw[dV];generalize zb ((n/2:Nat):Int) (nd t n)=D at *
  generalize nd t n=N at *
  unfold aW;generalize aK ah.cells t=X at *
  obtain⟨nk,nm,ny,ll,nu⟩:=N;unfold ah.cells at cT hH;unfold aG at cT hH;have cA:(0:Int)≤(n:Int):=(by omega);refine jA ?_;refine jK (qL _) ?_;rintro s1 rfl;refine wK fun K hK=>?_;refine jA ?_;refine jE ?_;refine wS fun K hK=>?_;simp only[↓DN,Qa,Qb,Qc,Qd,Qe,Qf,Qg,Qh,reduceCtorEq,↓reduceIte,Na,Nb,Nc,Nk,Nf,Ng,Nh,Za,Zb,Zc,TT,lV,dL n (by omega),au,hi,cA,cT];refine ad (hH _) ?_;rintro r s2 ⟨rfl,rfl⟩;refine jR hK ?_;clear hK K;exact jJ
 |succ l ih=>
  intro n hl hn hs s;refine aa func165 rfl ntmps165 results165 (by simp) ?_;obtain⟨hk,UD,DS,Ci,Kj,UH⟩:=qc hn hl;have qL:=fun s=>iE (Γ:=Γ) hG (n:Int) (by omega) s;have RO:=fun s=>mT (Γ:=Γ) hG (n:Int) (by omega) s;rw[hk] at qL RO;have wB:0<2^l:=Nat.two_pow_pos l;have PH:2^(l+1)=2^l+2^l:=(by rw[Nat.pow_succ];omega);have hi:n<t.length:=(by omega);have cT:=dh hi;have h1:=fun s=>ih (n-2^l) UD (by omega) (by omega) s;have h2:=fun s=>ih (n+2^l) DS Ci (by omega) s;have hB:=fun s=>vo (Γ:=Γ) dU gy (nd t n) (ht.nd n).1 (jd t l (n-2^l)) (jd t l (n+2^l)) (by have:=vq t l (n-2^l);have:=vq t l (n+2^l);omega) s;have dV:jd t (l+1) n=ou (nd t n) (jd t l (n-2^l)) (jd t l (n+2^l)):=rfl;rw[dV];clear ih dV;generalize ou (nd t n) (jd t l (n-2^l)) (jd t l (n+2^l))=D at *
  generalize jd t l (n-2^l)=H1 at *
  generalize jd t l (n+2^l)=H2 at *
  generalize nd t n=N at *
  unfold aW at *
  generalize aK ah.cells t=X at *
  obtain⟨nk,nm,ny,ll,nu⟩:=N;unfold ah.cells at cT hB;unfold aG at cT hB;have cA:(0:Int)≤(n:Int):=(by omega);refine jA ?_;refine jK (qL _) ?_;rintro s1 rfl;refine wK fun K hK=>?_;refine jA ?_;refine jF ?_;refine ab ?_;refine hK _ _ ?_;clear hK K;refine jK (RO _) ?_;rintro s2 rfl;refine bj T.mixed [6,9,10] (by kernel_rfl) ?_;intro K hK;simp only[↓DM,bE,DX,Nz,↓DN,Qa,Qb,Qc,Qd,Qe,Qf,Qg,Qh,reduceCtorEq,↓reduceIte,Na,Nb,Nc,Nk,Nf,Ng,Nh,Za,Zb,Zc,TT,au,hi,cA,cT];refine ad (h1 _) ?_;rintro r s3 ⟨rfl,rfl⟩;refine jM ?_;refine ad (h2 _) ?_;rintro r s4 ⟨rfl,rfl⟩;refine jM ?_;refine ad (hB _) ?_;rintro r s5 ⟨rfl,rfl⟩;refine jR hK ?_;clear hK K;exact jJ
def wg(t:List ah)(x:Int):List UInt8:=if 0≤x∧x<(t.length:Int)∧bf t then jd t (lv x.toNat) x.toNat else[]
theorem Az(dU:Γ 0=eA Sha.H0)(gy:Γ 1=Sha.K.map wV)(hG:Γ 3=fi.map oJ)(t:List ah)(ht:eI t)(x:Int)(s:AS):
  aj prog Γ 114 [aW t,.v (.int .i64 x)] s (fun r s'=>r=al (wg t x) .any∧s'=s):=by
 refine aa func114 rfl ntmps114 results114 (by simp) ?_;have hr:=fun s=>kf (Γ:=Γ) hG t ht s;have hh:=fun n hn hs s=>Df (Γ:=Γ) dU gy hG t ht (lv n) n rfl hn hs s;have kq:=ht.1;have vz:¬(0≤x∧x<(t.length:Int)∧bf t)→wg t x=[]:=fun h=>if_neg h;have MO:0≤x∧x<(t.length:Int)∧bf t→wg t x=jd t (lv x.toNat) x.toNat:=fun h=>if_pos h;unfold aW at *
 generalize aK ah.cells t=X at *
 refine jA ?_;refine wK fun K hK=>?_;by_cases h0:x<0
 ·refine jB (decide_eq_true h0) ?_;refine jE ?_;refine jA ?_;refine jI ?_;refine⟨_,_,AV.aM (sz:=1),AS.le.refl _,?_,rfl⟩;rw[vz (fun k=>by omega)];rfl
 ·by_cases h1:(t.length:Int)≤x
  ·refine jB (Ai (decide_eq_false h0) (decide_eq_true h1)) ?_;refine jE ?_;refine jA ?_;refine jI ?_;refine⟨_,_,AV.aM (sz:=1),AS.le.refl _,?_,rfl⟩;rw[vz (fun k=>by omega)];rfl
  ·refine jS (Ai (decide_eq_false h0) (decide_eq_false h1)) fun K hK=>?_;refine ad (hr _) ?_;rintro r s1 ⟨rfl,rfl⟩;by_cases ie:bf t
   ·rw[decide_eq_true ie];refine jR hK ?_;clear hK K;refine jF ?_;refine ab ?_;refine hK _ _ ?_;clear hK K;obtain⟨n,rfl⟩:=Int.eq_ofNat_of_zero_le (show 0≤x by omega);have hn:n<t.length:=(by omega);obtain⟨gV,nU⟩:=ie.span hn;refine jK (hh n nU gV _) ?_;rintro s2 rfl;refine jI ?_;refine jW ⟨?_,rfl⟩;rw[MO ⟨by omega,by omega,ie⟩,Int.toNat_natCast]
   ·rw[decide_eq_false ie];refine jR hK ?_;clear hK K;refine jE ?_;refine jA ?_;refine jI ?_;refine⟨_,_,AV.aM (sz:=1),AS.le.refl _,?_,rfl⟩;rw[vz (fun k=>ie k.2.2)];rfl
theorem Fy(l:List Int)(v:Int)(hl:l.length≤2^61)(s:AS):aj prog Γ 129 [aG l .any,.v (.int .i64 v)] s (fun r s'=>r=.v (.int .i64 (cd (fun i=>v==l.getD i 0) l.length 0))∧s'=s):=by
 refine aa func129 rfl ntmps129 results129 (by simp) ?_;obtain⟨Q,hQ⟩:∃Q:Nat→Bool,Q=fun i=>v==l.getD i 0:=⟨_,rfl⟩;rw[←hQ];unfold aG;refine jA ?_;refine wK fun K hK=>?_;refine jA ?_;refine ag ?_;refine aD (fun E s2=>∃i:Nat,i≤l.length∧cd Q (l.length-i) i=cd Q l.length 0∧E 8=.v (.int .i64 i)∧E 7=.v (.int .i64 l.length)∧E 0=.sl 1 l.length (l.map aJ) .any∧E 1=.v (.int .i64 v)∧s2=s)
  (fun E _=>match E 8 with |.v (.int _ i)=>l.length-i.toNat|_=>0) ?_ ?_
 ·exact⟨0,Nat.zero_le _,rfl,rfl,rfl,rfl,rfl,rfl⟩
 ·rintro E1 s2 ⟨i,hi,hf,g8,g7,g0,g1,rfl⟩ -
  by_cases aY:i<l.length
  ·refine jB (Ai @g8 (Ai @g7 (Ai @au (decide_eq_true aY)))) ?_;refine wK fun K2 aU=>?_;refine jE ?_;refine ab ?_;refine aU _ _ ?_;clear aU K2;refine wK fun K3 bq=>?_;refine ag ?_;have zD:Q i=(v==l[i]):=(by rw[hQ];simp[List.getD,aY]);obtain⟨k',Dy⟩:∃k',l.length-i=k'+1:=⟨l.length-i-1,by omega⟩;have Dw:l.length-(i+1)=k':=(by omega);rw[Dy] at hf;have cT:=eB aY;have cA:(0:Int)≤(i:Int):=(by omega);generalize l[i]=u at *
   refine jB @g8 ?_;by_cases hq:v=u
   ·have U4:Q i=true:=(by rw[zD];exact lU hq);refine jB (Ai @g1 (Ai @g0 (Ai @au (Ai @aY (Ai @cA (Ai @cT (lU hq))))))) ?_;refine jE ?_;refine jA ?_;refine jI ?_;rw[←hf,ku U4];exact jW ⟨rfl,rfl⟩
   ·have U4:Q i=false:=(by rw[zD];exact ko hq);refine jB (Ai @g1 (Ai @g0 (Ai @au (Ai @aY (Ai @cA (Ai @cT (ko hq))))))) ?_;refine jF ?_;refine ab ?_;simp only[aq,aA,if_true,if_false];refine bq _ _ ?_;clear bq K3;refine jD (Ai @g8 (bd i (by omega))) ?_;refine⟨⟨i+1,by omega,by rw[Dw,←hf,kt U4],rfl,g7,g0,g1,rfl⟩,?_⟩;simp only[g8,aB,↓reduceIte];omega
  ·refine jB (Ai @g8 (Ai @g7 (Ai @au (decide_eq_false aY)))) ?_;refine wK fun K2 aU=>?_;refine jF ?_;refine aC ?_;simp only[aA,aq,if_true];refine hK _ _ ?_;clear hK aU K2 K;rw[show l.length-i=0 by omega] at hf;refine jA ?_;refine jI ?_;rw[←hf];exact jW ⟨rfl,rfl⟩
theorem iJ(l:List Int)(v:Int)(hl:l.length≤2^61)(s:AS):aj prog Γ 77 [aG l .any,.v (.int .i64 v)] s (fun r s'=>r=.v (.bool (decide (v∈l)))∧s'=s):=by
 refine aa func77 rfl ntmps77 results77 (by simp) ?_;have hc:=fun s=>Fy (Γ:=Γ) l v hl s;have ha:=yJ (fun x=>v==x) l;have hm:l.any (fun x=>v==x)=decide (v∈l):=by
  rw[Bool.eq_iff_iff,List.any_eq_true,decide_eq_true_iff];constructor
  ·rintro⟨x,hx,he⟩;rw[beq_iff_eq.1 he];exact hx
  ·intro h;exact⟨v,h,by simp⟩
 rw[hm] at ha;generalize cd (fun i=>v==l.getD i 0) l.length 0=n at *
 refine jA ?_;refine jK (hc _) ?_;rintro s1 rfl;refine jI ?_;rw[←ha];exact jW ⟨rfl,rfl⟩
end Go.Proofs.YtbiefppedlodiaaGreatDoor
