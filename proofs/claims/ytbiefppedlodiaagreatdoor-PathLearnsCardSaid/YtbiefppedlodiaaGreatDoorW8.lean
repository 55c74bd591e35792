/- Contracts of functions, each walked once; each theorem states its conditions. -/
import Derived.Test.YtbiefppedlodiaaGreatDoorAMp6
import Derived.Test.YtbiefppedlodiaaGreatDoorW1
import Derived.Test.YtbiefppedlodiaaGreatDoorW7
import Derived.Test.YtbiefppedlodiaaGreatDoorAMp3
import Derived.Test.YtbiefppedlodiaaGreatDoorAMp5
set_option linter.unusedSimpArgs false
set_option linter.unusedVariables false
open Nat renaming reduceLT → Na, reduceLeDiff → Nb, reduceEqDiff → Nc, reduceAdd → Nk, reduceMul → Nf, reducePow → Ng, reduceSub → Nh, reduceBEq → Nz
open Int renaming reduceLT → Za, reduceLE → Zb, reduceToNat → Zc
open And renaming intro → Ai
open Go.AM renaming ashift → Qa, aconv → Qb, aindexAddr → Qc, aindex → Qd, aslice → Qe, abuiltin → Qf, awp_reg_seq → wS, awp_reg_end → wE, awp_seq_k → wK, awp_cond_k → wC
open Go.AM.AV renaming cells → Qg, one → Qh
set_option maxRecDepth 100000
set_option maxHeartbeats 8000000
namespace Go.Proofs.YtbiefppedlodiaaGreatDoor
open Go Go.AM Go.Proofs Tryz
variable{Γ:Nat→List AV}
theorem Nn:∀n:Nat,n<256→mr .i64 (n:Int) 1=((n%2:Nat):Int):=by decide+kernel
theorem Ul(n:Nat):eU .i64 (n:Int) 1=((n/2:Nat):Int):=by
 have:=ir (k:=.i64) n 1;rw[show(1:Int)=((1:Nat):Int) from rfl,this];simp[IntKind.bits]
theorem QF:(((1:Nat):Int)==1)=true:=rfl
theorem Ka:(((0:Nat):Int)==1)=false:=rfl
theorem AG(x:UInt8)(s:AS):aj prog Γ 255 [bV x] s (fun r s'=>r=bV (Aes.inv x)∧s'=s):=by
 refine aa func255 rfl ntmps255 results255 (by simp) ?_;refine jA ?_;refine jA ?_;refine wK fun K hK=>?_;refine jA ?_;refine ag ?_;refine aD (fun E s1=>∃(f:Nat)(o a:UInt8)(n:Nat),E 3=bV o∧E 0=bV a∧E 4=.v (.int .i64 n)∧n<2^f∧n<256∧Aes.pw f o a n=Aes.pw 8 1 x 254∧s1=s)
  (fun E _=>match E 4 with |.v (.int _ i)=>i.toNat|_=>0) ?_ ?_
 ·exact⟨8,1,x,254,rfl,by simp only[aB,bx,Nc,↓reduceIte];rfl,rfl,by decide,by decide,rfl,rfl⟩
 ·rintro E1 s1 ⟨f,o,a,n,h3,h0,h4,hn,Zt,hinv,rfl⟩ -
  refine wK fun K2 aU=>?_;by_cases UI:n=0
  ·refine jB (Ai @h4 (decide_eq_false (show ¬(0:Int)<(n:Int) by omega))) ?_;refine jF ?_;refine aC ?_;simp only[aA,aq,if_true];refine hK _ _ ?_;clear hK aU K K2;refine jB @h3 ?_;refine jI ?_;refine jW ⟨?_,rfl⟩;rw[Aes.inv,←hinv,UI,Aes.II]
  ·refine jB (Ai @h4 (decide_eq_true (show(0:Int)<(n:Int) by omega))) ?_;refine jE ?_;refine ab ?_;refine aU _ _ ?_;clear aU K2;refine wK fun K3 bq=>?_;refine ag ?_;refine wK fun K4 dM=>?_;obtain⟨g,rfl⟩:∃g,f=g+1:=⟨f-1,by
    cases f with
    |zero=>simp at hn;omega
    |succ f=>simp⟩
   have dK:Aes.pw (g+1) o a n=Aes.pw g (if n%2=1 then Aes.gm 8 0 o a else o) (Aes.gm 8 0 a a) (n/2):=rfl;have tq:∀(E2:Env)(o2:UInt8),E2 3=bV o2→E2 0=bV a→E2 4=.v (.int .i64 n)→Aes.pw g o2 (Aes.gm 8 0 a a) (n/2)=Aes.pw 8 1 x 254→K4 E2 s1:=by
    intro E2 o2 e3 e0 e4 zn;refine dM _ _ ?_;clear dM K4;refine jU @e0 fun K hK=>?_;refine ad (uv a a s1) ?_;rintro r s' ⟨rfl,rfl⟩;refine jR hK ?_;clear hK K;simp only[aq,aA,if_true,if_false];refine bq _ _ ?_;clear bq K3;refine jD (Ai @e4 @Ul) ?_;refine⟨⟨g,o2,Aes.gm 8 0 a a,n/2,e3,rfl,rfl,by rw[Nat.pow_succ] at hn;omega,by omega,zn,rfl⟩,?_⟩;simp only[h4,aB,↓reduceIte];omega
   by_cases yo:n%2=1
   ·refine jB (Ai @h4 (Ai (Nn n Zt) (Ai @yo @QF))) ?_;refine jE ?_;refine jU (Ai @h3 @h0) fun K hK=>?_;refine ad (uv o a s1) ?_;rintro r s' ⟨rfl,rfl⟩;refine jR hK ?_;clear hK K;refine tq _ (Aes.gm 8 0 o a) rfl h0 h4 ?_;rw[←hinv,dK,if_pos yo]
   ·have zo:n%2=0:=(by omega);refine jB (Ai @h4 (Ai (Nn n Zt) (Ai @zo @Ka))) ?_;refine jF ?_;refine ab ?_;refine tq _ o h3 h0 h4 ?_;rw[←hinv,dK,if_neg yo]
theorem HC:∀k:Nat,k<8→mr .u64 (cE .u64 (k:Int)) 7=((k:Nat):Int):=by decide+kernel
theorem Np:∀k:Nat,k<8→dr .u64 8 ((k:Nat):Int)=((8-k:Nat):Int):=by decide+kernel
theorem Nq(x:UInt8)(k:Nat)(h0:0<k)(h:k<8):F6 .u8 (kC .u8 (x.toNat:Int) ((k:Nat):Int)) (eU .u8 (x.toNat:Int) ((8-k:Nat):Int))=(((Aes.ZW x k).toNat:Nat):Int):=by
 have hx:=x.toNat_lt;have hd:x.toNat/2^(8-k)<256:=Nat.lt_of_le_of_lt (Nat.div_le_self _ _) hx;rw[rN rfl,ir];simp only[IntKind.bits];rw[Nat.min_eq_left (by omega),Nat.min_eq_left (by omega)];have e:=A2 (k:=.u8) rfl (x.toNat*2^k%2^8) (x.toNat/2^(8-k)) (Nat.mod_lt _ (by decide)) hd;rw[e];rw[Aes.ZW,UInt8.toNat_or,UInt8.toNat_ofNat',UInt8.toNat_ofNat',Nat.mod_eq_of_lt hd]
theorem FE(x:UInt8)(k:Nat)(h0:0<k)(h:k<8)(s:AS):
  aj prog Γ 256 [bV x,.v (.int .i64 (k:Int))] s (fun r s'=>r=bV (Aes.ZW x k)∧s'=s):=by
 refine aa func256 rfl ntmps256 results256 (by simp) ?_;refine jA ?_;refine jB (HC k h) ?_;refine jB (Ai @mL (Ai (Np k h) (Nq x k h0 h))) ?_;refine jI ?_;exact⟨_,s,AV.aE.refl _,AS.le.refl s,rfl,rfl⟩
theorem Dn(x:UInt8)(s:AS):aj prog Γ 251 [bV x] s (fun r s'=>r=bV (Aes.box x)∧s'=s):=by
 refine aa func251 rfl ntmps251 results251 (by simp) ?_;have xdK:Aes.box x=Aes.Hw (Aes.inv x) 4:=rfl;have hi:=fun s=>AG (Γ:=Γ) x s;rw[xdK];generalize Aes.inv x=y at *
 refine jA ?_;refine jK (hi _) ?_;rintro s1 rfl;refine jB @QE ?_;refine wK fun K hK=>?_;refine jA ?_;refine ag ?_;refine aD (fun E s2=>∃i:Nat,i≤4∧E 3=bV y∧E 4=bV (Aes.Hw y i)∧E 5=.v (.int .i64 ((i+1:Nat):Int))∧s2=s1)
  (fun E _=>match E 5 with |.v (.int _ i)=>5-i.toNat|_=>0) ?_ ?_
 ·exact⟨0,by omega,rfl,rfl,rfl,rfl⟩
 ·rintro E1 s2 ⟨i,aY,h3,h4,h5,rfl⟩ -
  refine wK fun K2 aU=>?_;by_cases hn:i<4
  ·refine jB (Ai @h5 (decide_eq_true (show((i+1:Nat):Int)<5 by omega))) ?_;refine jE ?_;refine ab ?_;refine aU _ _ ?_;clear aU K2;refine wK fun K3 bq=>?_;refine ag ?_;have Iz:Aes.Hw y (i+1)=Aes.Hw y i ^^^ Aes.ZW y (i+1):=rfl;generalize Aes.Hw y i=o at *
   refine jU (Ai @h3 (Ai @h4 @h5)) fun K hK=>?_;refine ad (FE y (i+1) (by omega) (by omega) _) ?_;rintro r s3 ⟨rfl,rfl⟩;refine jV (Ai @h3 (Ai @h4 (Ai @h5 @oV))) hK ?_;clear hK K;simp only[aq,aA,if_true,if_false];refine bq _ _ ?_;clear bq K3;refine jD (Ai @h5 (cS (i+1) (by omega))) ?_;refine⟨⟨i+1,by omega,h3,by simp only[aB,Nc,↓reduceIte,Iz],rfl,rfl⟩,?_⟩;simp only[h5,aB,↓reduceIte];omega
  ·obtain rfl:i=4:=(by omega);refine jB (Ai @h5 (decide_eq_false (show ¬((4+1:Nat):Int)<5 by decide))) ?_;refine jF ?_;refine aC ?_;simp only[aA,aq,if_true];refine hK _ _ ?_;clear hK aU K K2;refine jB @h4 ?_;exact jJ
def ba(F G:Nat→UInt8)(N i:Nat):List AV:=(List.range N).map fun n=>ae (if n<i then F n else G n)
theorem dq(F G:Nat→UInt8)(N i:Nat):(ba F G N i).length=N:=by simp[ba]
theorem dZ(F G:Nat→UInt8)(N i:Nat)(x:UInt8)(hx:x=F i):(ba F G N i).set i (bV x)=ba F G N (i+1):=by
 subst hx;apply List.ext_getElem?;intro k;by_cases e:k=i
 ·subst e;by_cases hk:k<N
  ·rw[List.getElem?_set_self (by rw[dq];exact hk)];simp[ba,hk,ae]
  ·rw[List.getElem?_eq_none (by simp[ba];omega),List.getElem?_eq_none (by simp[ba];omega)]
 ·rw[List.getElem?_set_ne (by omega)];by_cases hk:k<N
  ·simp only[ba,List.getElem?_map,List.getElem?_range hk,Option.map_some];by_cases h2:k<i
   ·rw[if_pos h2,if_pos (by omega)]
   ·rw[if_neg h2,if_neg (by omega)]
  ·rw[List.getElem?_eq_none (by simp[ba];omega),List.getElem?_eq_none (by simp[ba];omega)]
theorem fN(F G:Nat→UInt8)(N:Nat):ba F G N N=((List.range N).map F).map ae:=by
 rw[ba,List.map_map];apply List.map_congr_left;intro n hn;rw[if_pos (List.mem_range.1 hn)];rfl
theorem sy(F G:Nat→UInt8)(N:Nat):ba F G N 0=((List.range N).map G).map ae:=by
 rw[ba,List.map_map];apply List.map_congr_left;intro n hn;rw[if_neg (by omega)];rfl
theorem iT(F:Nat→UInt8)(N:Nat):ba F (fun _=>0) N 0=List.replicate N (bV 0):=by
 rw[sy];apply List.ext_getElem
 ·simp
 ·intro k h1 h2;simp[ae]
theorem mn{l:List UInt8}{N:Nat}(h:l.length=N):(List.range N).map (fun n=>l.getD n 0)=l:=by
 apply List.ext_getElem
 ·simp[h]
 ·intro k h1 h2;simp[List.getElem?_eq_getElem h2]
theorem oz(F G:Nat→UInt8)(N i j:Nat)(hj:j<N):List.drop j (ba F G N i)=ae (if j<i then F j else G j)::List.drop (j+1) (ba F G N i):=by
 apply drop_cons;simp[ba,hj]
theorem dv{l:List UInt8}(j:Nat)(h:j<l.length):List.drop j (l.map ae)=ae (l.getD j 0)::List.drop (j+1) (l.map ae):=by
 apply drop_cons;simp[List.getElem?_eq_getElem h]
theorem cq(l:List UInt8):(l.map ae).all AV.one=true:=pz l
theorem Nr(n:Nat):cE .u8 (n:Int)=(((UInt8.ofNat n).toNat:Nat):Int):=by
 have:=pA n;simp only[ae,AV.v.injEq,Value.int.injEq,true_and] at this;exact this.symm
theorem Um:bo prog 252=some (List.replicate 256 (bV 0)):=by kernel_rfl
theorem z157:bo prog 236=some (List.replicate 16 (bV 0)):=by kernel_rfl
theorem Ns:(List.range 256).map (fun n=>Aes.sb.getD n 0)=Aes.sb:=mn Aes.sv
theorem FF(s:AS):aj prog Γ 239 [] s (fun r s'=>r=.agg (Aes.sb.map ae)∧s'=s):=by
 refine aa func239 rfl ntmps239 results239 (by simp) ?_;refine jS @Um fun K hK=>?_;intro o0 ho0;refine hK _ _ ?_;clear hK K;refine jS @Um fun K hK=>?_;intro o1 xA;obtain⟨RI,xdL⟩:=AS.ff xA;refine hK _ _ ?_;clear hK K;refine wK fun K hK=>?_;refine jA ?_;refine ag ?_;rw[←iT (fun n=>Aes.sb.getD n 0) 256];have uA:=dq (fun n=>Aes.sb.getD n 0) (fun _=>0) 256 0;refine aD (fun E s1=>∃i:Nat,i≤256∧E 0=.ptr o0 0∧E 1=.ptr o1 0∧E 3=.v (.int .i64 i)∧s1=(s.set o0 (ba (fun n=>Aes.sb.getD n 0) (fun _=>0) 256 0)).set o1 (ba (fun n=>Aes.sb.getD n 0) (fun _=>0) 256 i))
  (fun E _=>match E 3 with |.v (.int _ i)=>256-i.toNat|_=>0) ?_ ?_
 ·exact⟨0,by omega,rfl,rfl,rfl,rfl⟩
 ·rintro E1 s1 ⟨i,hi,e0,e1,e3,rfl⟩ -
  by_cases aY:i<256
  ·have fO:(i:Int)<256:=(by omega);have FZ:(i:Int)<((256:Nat):Int):=(by omega);have fD:(0:Int)≤(i:Int):=(by omega);refine jB (Ai @e3 (decide_eq_true fO)) ?_;refine wK fun K2 aU=>?_;refine jE ?_;refine ab ?_;refine aU _ _ ?_;clear aU K2;refine wK fun K3 bq=>?_;refine ag ?_;refine jB @e3 ?_;have cz:=dZ (fun n=>Aes.sb.getD n 0) (fun _=>0) 256 i (Aes.box (UInt8.ofNat i)) (Aes.T4 i aY);have hlen:=dq (fun n=>Aes.sb.getD n 0) (fun _=>0) 256 i;generalize ba (fun n=>Aes.sb.getD n 0) (fun _=>0) 256 i=R at *
   generalize HD:ba (fun n=>Aes.sb.getD n 0) (fun _=>0) 256 (i+1)=R' at *
   refine jU (Ai @e1 @Nr) fun K hK=>?_;refine ad (Dn (UInt8.ofNat i) _) ?_;rintro r s2 ⟨rfl,rfl⟩;refine jN (Ai @e1 (Ai @fD (Ai @fO (Ai @FZ (Ai @cz @hlen))))) ?_;refine⟨by omega,hK _ _ ?_⟩;clear hK K;simp only[aq,aA,if_true,if_false];refine bq _ _ ?_;clear bq K3;refine jD (Ai @e3 (cS i (by omega))) ?_;refine⟨⟨i+1,by omega,e0,e1,rfl,by rw[HD]⟩,?_⟩;simp only[e3,aB,↓reduceIte];omega
  ·have fO:¬(i:Int)<256:=(by omega);obtain rfl:i=256:=(by omega);refine jB (Ai @e3 (decide_eq_false fO)) ?_;refine wK fun K2 aU=>?_;refine jF ?_;refine aC ?_;simp only[aA,aq,if_true];clear aU K2;refine hK _ _ ?_;clear hK K;rw[fN,Ns];have uX:(Aes.sb.map ae).length=256:=(by rw[List.length_map,Aes.sv]);have bS:=cq Aes.sb;have eo:List.take 256 (Aes.sb.map ae)=Aes.sb.map ae:=List.take_of_length_le (by omega);generalize Aes.sb.map ae=X at *
   generalize ba (fun n=>Aes.sb.getD n 0) (fun _=>0) 256 0=R0 at *
   refine jS (Ai @e0 (Ai @e1 (Ai @uX (Ai @eo (Ai @bS (Ai @RI @RI.symm)))))) fun K hK=>?_;rw[bD R0 X (by omega)];refine⟨by omega,hK _ _ ?_⟩;clear hK K;refine a7 ?_;refine eQ (v:=.agg X) (o:=o0) (off:=0) e0 (AS.af _ _ _) (by rw[T.S8];decide) (by simp only[↓DN,Qa,Qb,Qc,Qd,Qe,Qf,Qg,Qh,reduceCtorEq,↓reduceIte,Na,Nb,Nc,Nk,Nf,Ng,Nh,Za,Zb,Zc,TT,uX,eo]) ?_;exact⟨_,s,AV.aE.refl _,AS.aF (AS.aF (AS.aF (AS.le.refl s) ho0 _) xdL _) ho0 _,rfl,rfl⟩
theorem QG(a:Nat):iW (a:Int) 4=((a%4:Nat):Int):=lP a 4
theorem add_const(a c:Nat)(h:a<1000)(hc:c<1000):dQ .i64 (a:Int) ((c:Nat):Int)=((a+c:Nat):Int):=by
 rw[ec (by omega)];rfl
theorem Nt(a:Nat)(h:a<1000):dQ .i64 (a:Int) 1=((a+1:Nat):Int):=add_const a 1 h (by omega)
theorem Un(a:Nat)(h:a<1000):dQ .i64 (a:Int) 2=((a+2:Nat):Int):=add_const a 2 h (by omega)
theorem Uo(a:Nat)(h:a<1000):dQ .i64 (a:Int) 3=((a+3:Nat):Int):=add_const a 3 h (by omega)
theorem lE{s:AS}{o p q:Nat}{x y:List AV}(h:(if q=p then some x else if q=o then some y else s.aw q)=none):q≠p∧q≠o∧s.aw q=none:=by
 by_cases h1:q=p
 ·rw[if_pos h1] at h;cases h
 ·rw[if_neg h1] at h;by_cases h2:q=o
  ·rw[if_pos h2] at h;cases h
  ·rw[if_neg h2] at h;exact⟨h1,h2,h⟩
theorem uw(b k:List UInt8)(hb:b.length=16)(hk:k.length=16)(s:AS):
  aj prog Γ 241 [.agg (b.map ae),.agg (k.map ae)] s (fun r s'=>r=.agg ((Aes.add b k).map ae)∧s'=s):=by
 refine aa func241 rfl ntmps241 results241 (by simp) ?_
 have hF:(List.range 16).map (fun n=>b.getD n 0 ^^^ k.getD n 0)=Aes.add b k:=rfl
 have hR0:ba (fun n=>b.getD n 0 ^^^ k.getD n 0) (fun n=>b.getD n 0) 16 0=b.map ae:=by rw[sy,mn hb]
 have uB:(k.map ae).length=16:=by rw[List.length_map,hk]
 refine wS fun K hK=>?_
 simp only[↓DN,Qa,Qb,Qc,Qd,Qe,Qf,Qg,Qh,reduceCtorEq,↓reduceIte,Na,Nb,Nc,Nk,Nf,Ng,Nh,Za,Zb,Zc,TT,z157]
 intro o2 qQ o3 Au
 obtain⟨qH,Av⟩:=AS.ff Au
 intro o4 Db
 obtain⟨QH,JZ,vn⟩:=lE Db
 rw[show([AV.v (.int .u8 0),AV.v (.int .u8 0),AV.v (.int .u8 0),AV.v (.int .u8 0),AV.v (.int .u8 0),AV.v (.int .u8 0),AV.v (.int .u8 0),AV.v (.int .u8 0),AV.v (.int .u8 0),AV.v (.int .u8 0),AV.v (.int .u8 0),AV.v (.int .u8 0),AV.v (.int .u8 0),AV.v (.int .u8 0),AV.v (.int .u8 0),AV.v (.int .u8 0)]:List AV)=List.replicate 16 (bV 0) from rfl]
 refine hK _ _ ?_;clear hK K
 rw[←hR0]
 have j2:(((s.set o2 (ba (fun n=>b.getD n 0 ^^^ k.getD n 0) (fun n=>b.getD n 0) 16 0)).set o3 (k.map ae)).set o4 (List.replicate 16 (bV 0))).aw o2=some (ba (fun n=>b.getD n 0 ^^^ k.getD n 0) (fun n=>b.getD n 0) 16 0):=by
  rw[AS.ao _ JZ.symm,AS.ao _ qH.symm,AS.af]
 have j3:(((s.set o2 (ba (fun n=>b.getD n 0 ^^^ k.getD n 0) (fun n=>b.getD n 0) 16 0)).set o3 (k.map ae)).set o4 (List.replicate 16 (bV 0))).aw o3=some (k.map ae):=by
  rw[AS.ao _ QH.symm,AS.af]
 have j4:(((s.set o2 (ba (fun n=>b.getD n 0 ^^^ k.getD n 0) (fun n=>b.getD n 0) 16 0)).set o3 (k.map ae)).set o4 (List.replicate 16 (bV 0))).aw o4=some (List.replicate 16 (bV 0)):=AS.af _ _ _
 have hle:s.le (((s.set o2 (ba (fun n=>b.getD n 0 ^^^ k.getD n 0) (fun n=>b.getD n 0) 16 0)).set o3 (k.map ae)).set o4 (List.replicate 16 (bV 0))):=AS.aF (AS.aF (AS.aF (AS.le.refl s) qQ _) Av _) vn _
 generalize (((s.set o2 (ba (fun n=>b.getD n 0 ^^^ k.getD n 0) (fun n=>b.getD n 0) 16 0)).set o3 (k.map ae)).set o4 (List.replicate 16 (bV 0)))=s0 at *
 clear Au Db hR0
 have sQ:(List.replicate 16 (bV 0)).length=16:=by simp
 generalize List.replicate 16 (bV 0)=Z at *
 refine wK fun K hK=>?_
 refine wS fun K hK=>?_
 simp only[↓DN,Qa,Qb,Qc,Qd,Qe,Qf,Qg,Qh,reduceCtorEq,↓reduceIte,Na,Nb,Nc,Nk,Nf,Ng,Nh,Za,Zb,Zc,TT]
 refine hK _ _ ?_;clear hK K
 refine ag ?_
 refine aD (fun E s1=>∃i:Nat,i≤16∧E 2=.ptr o2 0∧E 3=.ptr o3 0∧E 4=.ptr o4 0∧E 6=.v (.int .i64 i)∧s1.aw o2=some (ba (fun n=>b.getD n 0 ^^^ k.getD n 0) (fun n=>b.getD n 0) 16 i)∧s1.aw o3=some (k.map ae)∧s1.aw o4=some Z∧s.le s1)
  (fun E _=>match E 6 with |.v (.int _ i)=>16-i.toNat|_=>0) ?_ ?_
 ·exact⟨0,by omega,by simp only[aB,Nc,↓reduceIte],by simp only[aB,Nc,↓reduceIte],by simp only[aB,Nc,↓reduceIte],by simp only[aB,↓reduceIte];rfl,j2,j3,j4,hle⟩
 ·clear j2 j3 j4 hle
  rintro E1 s1 ⟨i,hi,e2,e3,e4,e6,j2,j3,j4,hle⟩ -
  by_cases aY:i<16
  ·have fO:(i:Int)<16:=by omega
   have FZ:(i:Int)<((16:Nat):Int):=by omega
   have fD:(0:Int)≤(i:Int):=by omega
   refine wS fun K hK=>?_
   simp only[↓DN,Qa,Qb,Qc,Qd,Qe,Qf,Qg,Qh,reduceCtorEq,↓reduceIte,Na,Nb,Nc,Nk,Nf,Ng,Nh,Za,Zb,Zc,TT,e6,decide_eq_true fO]
   refine hK _ _ ?_;clear hK K
   refine wK fun K2 aU=>?_
   refine wC fun X Y hX hY=>?_
   simp only[UP,DF,Nc,↓reduceIte,DB]
   refine hX ?_;clear hX hY X Y
   refine ab ?_
   refine aU _ _ ?_;clear aU K2
   refine wK fun K3 bq=>?_
   refine ag ?_
   refine wS fun K hK=>?_
   simp only[↓DN,Qa,Qb,Qc,Qd,Qe,Qf,Qg,Qh,reduceCtorEq,↓reduceIte,Na,Nb,Nc,Nk,Nf,Ng,Nh,Za,Zb,Zc,TT,e6]
   refine hK _ _ ?_;clear hK K
   have d2:=oz (fun n=>b.getD n 0 ^^^ k.getD n 0) (fun n=>b.getD n 0) 16 i i aY
   rw[if_neg (Nat.lt_irrefl i)] at d2
   have d3:=dv (l:=k) i (by omega)
   have cz:=dZ (fun n=>b.getD n 0 ^^^ k.getD n 0) (fun n=>b.getD n 0) 16 i _ rfl
   have hlen:=dq (fun n=>b.getD n 0 ^^^ k.getD n 0) (fun n=>b.getD n 0) 16 i
   generalize HD:ba (fun n=>b.getD n 0 ^^^ k.getD n 0) (fun n=>b.getD n 0) 16 (i+1)=R' at *
   generalize ba (fun n=>b.getD n 0 ^^^ k.getD n 0) (fun n=>b.getD n 0) 16 i=R at *
   generalize b.getD i 0=x at *
   generalize k.getD i 0=y at *
   generalize k.map ae=Y at *
   refine cV T.mixed [(o2,R),(o3,Y)] [] [2,5] [8] (by kernel_rfl) (by simp only[aH,aL,and_true];simp[AS.set,aB,j2,j3]) ?_
   intro K hK
   simp only[↓bt,↓a8,dx,dt,aR,aV,aH,aL,List.any_cons,List.any_nil,List.contains_cons,List.contains_nil,Nat.reduceBEq,Bool.or_false,Bool.or_true,Bool.or_self,Bool.false_or,↓DN,Qa,Qb,Qc,Qd,Qe,Qf,Qg,Qh,reduceCtorEq,↓reduceIte,Na,Nb,Nc,Nk,Nf,Ng,Nh,Za,Zb,Zc,TT,e2,e3,e6,fD,fO,FZ,d2,d3,qH,qH.symm,j2,j3,ae,oV,cz,hlen,uB]
   refine⟨by omega,hK _ _ ?_⟩
   clear hK K
   simp only[aq,aA,if_true,if_false]
   refine bq _ _ ?_;clear bq K3
   refine wE fun K hK=>?_
   simp only[↓DN,Qa,Qb,Qc,Qd,Qe,Qf,Qg,Qh,reduceCtorEq,↓reduceIte,Na,Nb,Nc,Nk,Nf,Ng,Nh,Za,Zb,Zc,TT,e6,cS i (by omega)]
   refine hK _ _ ?_;clear hK K
   refine⟨⟨i+1,by omega,by simp only[aB,e2,Nc,↓reduceIte],by simp only[aB,e3,Nc,↓reduceIte],by simp only[aB,e4,Nc,↓reduceIte],by simp only[aB,↓reduceIte],by rw[HD];exact AS.af _ _ _,by rw[AS.ao _ qH];exact j3,by rw[AS.ao _ JZ];exact j4,AS.aF hle qQ _⟩,?_⟩
   simp only[e6,aB,↓reduceIte]
   omega
  ·have fO:¬(i:Int)<16:=by omega
   obtain rfl:i=16:=by omega
   refine wS fun K hK=>?_
   simp only[↓DN,Qa,Qb,Qc,Qd,Qe,Qf,Qg,Qh,reduceCtorEq,↓reduceIte,Na,Nb,Nc,Nk,Nf,Ng,Nh,Za,Zb,Zc,TT,e6,decide_eq_false fO]
   refine hK _ _ ?_;clear hK K
   refine wK fun K2 aU=>?_
   refine wC fun X Y hX hY=>?_
   simp only[UP,DF,Nc,↓reduceIte,DB]
   refine hY ?_;clear hX hY X Y
   refine aC ?_
   simp only[aA,aq,if_true]
   clear aU K2
   refine hK _ _ ?_;clear hK K
   rw[fN,hF] at j2
   have uX:((Aes.add b k).map ae).length=16:=by rw[List.length_map,Aes.Dj]
   have bS:=cq (Aes.add b k)
   have eo:List.take 16 ((Aes.add b k).map ae)=(Aes.add b k).map ae:=List.take_of_length_le (by omega)
   generalize (Aes.add b k).map ae=X at *
   refine wS fun K hK=>?_
   simp only[↓DN,Qa,Qb,Qc,Qd,Qe,Qf,Qg,Qh,reduceCtorEq,↓reduceIte,Na,Nb,Nc,Nk,Nf,Ng,Nh,Za,Zb,Zc,TT,e2,e4,j2,j4,uX,eo,bS,JZ,JZ.symm]
   rw[bD Z X (by omega)]
   refine⟨by omega,hK _ _ ?_⟩
   clear hK K
   refine a7 ?_
   refine eQ (v:=.agg X) (o:=o4) (off:=0) (by simp only[aB,e4,Nc,↓reduceIte]) (AS.af _ _ _) (by rw[T.Lt];decide) (by simp only[↓DN,Qa,Qb,Qc,Qd,Qe,Qf,Qg,Qh,reduceCtorEq,↓reduceIte,Na,Nb,Nc,Nk,Nf,Ng,Nh,Za,Zb,Zc,TT,uX,eo]) ?_
   exact⟨_,s,AV.aE.refl _,AS.aF hle vn _,rfl,rfl⟩
theorem xm:¬(4:Int)=0:=by decide
def wY(c:List UInt8):List UInt8:=(List.range 4).map fun i=>Aes.mx (fun j=>c.getD j 0) i
theorem Nu(c:List UInt8):(wY c).length=4:=by simp[wY]
theorem Dp(c:List UInt8)(hc:c.length=4)(s:AS):
  aj prog Γ 253 [.agg (c.map ae)] s (fun r s'=>r=.agg ((wY c).map ae)∧s'=s):=by
 refine aa func253 rfl ntmps253 results253 (by simp) ?_;have hF:(List.range 4).map (fun i=>Aes.mx (fun j=>c.getD j 0) i)=wY c:=rfl;have gw:(c.map ae).length=4:=(by rw[List.length_map,hc]);have hz4:([.v (.int .u8 0),.v (.int .u8 0),.v (.int .u8 0),.v (.int .u8 0)]:List AV)=List.replicate 4 (bV 0):=rfl;refine jQ fun K hK=>?_;intro o1 xA o2 qQ;obtain⟨Oc,xag⟩:=AS.ff qQ;rw[hz4];refine hK _ _ ?_;clear hK K;refine jQ fun K hK=>?_;intro o3 Au;obtain⟨qH,Se,Av⟩:=lE Au;rw[hz4];refine hK _ _ ?_;clear hK K;generalize mu:((s.set o1 (c.map ae)).set o2 (List.replicate 4 (bV 0))).set o3 (List.replicate 4 (bV 0))=s0 at *
 have j1:s0.aw o1=some (c.map ae):=(by rw[←mu,AS.ao _ Se.symm,AS.ao _ Oc.symm,AS.af]);have j2:s0.aw o2=some (List.replicate 4 (bV 0)):=(by rw[←mu,AS.ao _ qH.symm,AS.af]);have j3:s0.aw o3=some (List.replicate 4 (bV 0)):=(by rw[←mu];exact AS.af _ _ _);have hle:s.le s0:=(by rw[←mu];exact AS.aF (AS.aF (AS.aF (AS.le.refl s) xA _) xag _) Av _);clear mu Au qQ;have sQ:(List.replicate 4 (bV 0)).length=4:=(by simp);rw[←iT (fun i=>Aes.mx (fun j=>c.getD j 0) i) 4] at j3;generalize List.replicate 4 (bV 0)=Z at *
 refine wK fun K hK=>?_;refine jA ?_;refine ag ?_;refine aD (fun E s1=>∃i:Nat,i≤4∧E 1=.ptr o1 0∧E 2=.ptr o2 0∧E 3=.ptr o3 0∧E 5=.v (.int .i64 i)∧s1.aw o3=some (ba (fun i=>Aes.mx (fun j=>c.getD j 0) i) (fun _=>0) 4 i)∧s1.aw o1=some (c.map ae)∧s1.aw o2=some Z∧s.le s1)
  (fun E _=>match E 5 with |.v (.int _ i)=>4-i.toNat|_=>0) ?_ ?_
 ·exact⟨0,by omega,rfl,rfl,rfl,rfl,j3,j1,j2,hle⟩
 ·clear j1 j2 j3 hle;rintro E1 s1 ⟨i,hi,e1,e2,e3,e5,j3,j1,j2,hle⟩ -
  by_cases aY:i<4
  ·have fO:(i:Int)<4:=(by omega);have FZ:(i:Int)<((4:Nat):Int):=(by omega);have fD:(0:Int)≤(i:Int):=(by omega);refine jB (Ai @e5 (decide_eq_true fO)) ?_;refine wK fun K2 aU=>?_;refine jE ?_;refine ab ?_;refine aU _ _ ?_;clear aU K2;refine wK fun K3 bq=>?_;refine ag ?_;refine jB @e5 ?_;have cz:=dZ (fun i=>Aes.mx (fun j=>c.getD j 0) i) (fun _=>0) 4 i _ rfl;have hlen:=dq (fun i=>Aes.mx (fun j=>c.getD j 0) i) (fun _=>0) 4 i;have Ja:Aes.mx (fun j=>c.getD j 0) i=(((Aes.Od (c.getD i 0) ^^^ Aes.Od (c.getD ((i+1)%4) 0)) ^^^ c.getD ((i+1)%4) 0) ^^^ c.getD ((i+2)%4) 0) ^^^ c.getD ((i+3)%4) 0:=rfl;rw[Ja] at cz;have d0:=dv (l:=c) i (by omega);have d1:=dv (l:=c) ((i+1)%4) (by omega);have d2:=dv (l:=c) ((i+2)%4) (by omega);have d3:=dv (l:=c) ((i+3)%4) (by omega);have k1:(0:Int)≤(((i+1)%4:Nat):Int):=(by omega);have k2:(0:Int)≤(((i+2)%4:Nat):Int):=(by omega);have k3:(0:Int)≤(((i+3)%4:Nat):Int):=(by omega);have m1:(((i+1)%4:Nat):Int)<((4:Nat):Int):=(by omega);have m2:(((i+2)%4:Nat):Int)<((4:Nat):Int):=(by omega);have m3:(((i+3)%4:Nat):Int)<((4:Nat):Int):=(by omega);clear Ja;generalize HD:ba (fun i=>Aes.mx (fun j=>c.getD j 0) i) (fun _=>0) 4 (i+1)=R' at *
   generalize ba (fun i=>Aes.mx (fun j=>c.getD j 0) i) (fun _=>0) 4 i=R at *
   generalize c.getD i 0=x0 at *
   generalize c.getD ((i+1)%4) 0=x1 at *
   generalize c.getD ((i+2)%4) 0=x2 at *
   generalize c.getD ((i+3)%4) 0=x3 at *
   generalize c.map ae=Y at *
   have a1:=Nt i (by omega);have a2:=Un i (by omega);have a3:=Uo i (by omega);refine cV T.mixed [(o1,Y),(o3,R)] [4,10] [3,9,16,22,28] [31] (by kernel_rfl) (by simp only[aH,aL,and_true];simp[AS.set,aB,j1,j3]) ?_;intro K hK;simp only[↓bt,↓a8,dx,dt,aR,aV,aH,aL,List.any_cons,List.any_nil,List.contains_cons,List.contains_nil,Nat.reduceBEq,Bool.or_false,Bool.or_true,Bool.or_self,Bool.false_or,↓DN,Qa,Qb,Qc,Qd,Qe,Qf,Qg,Qh,reduceCtorEq,↓reduceIte,Na,Nb,Nc,Nk,Nf,Ng,Nh,Za,Zb,Zc,TT,e1,e3,e5,fD,fO,FZ,k1,k2,k3,m1,m2,m3,d0,d1,d2,d3,a1,a2,a3,QG,xm,Se,Se.symm,j1,j3,ae,oV,cz,hlen,gw];refine ad (lz x0 _) ?_;rintro r sa ⟨rfl,rfl⟩;simp only[↓cx,↓bW,bE,↓bt,↓a8,dx,dt,aR,aV,aH,aL,List.any_cons,List.any_nil,DX,Nat.reduceBEq,↓DN,Qa,Qb,Qc,Qd,Qe,Qf,Qg,Qh,reduceCtorEq,↓reduceIte,Na,Nb,Nc,Nk,Nf,Ng,Nh,Za,Zb,Zc,TT,e1,e3,e5,fD,fO,FZ,k1,k2,k3,m1,m2,m3,d0,d1,d2,d3,a1,a2,a3,QG,xm,Se,Se.symm,j1,j3,ae,oV,cz,hlen,gw];refine ad (lz x1 _) ?_;rintro r sb ⟨rfl,rfl⟩;simp only[↓cx,↓bW,bE,↓bt,↓a8,dx,dt,aR,aV,aH,aL,List.any_cons,List.any_nil,DX,Nat.reduceBEq,↓DN,Qa,Qb,Qc,Qd,Qe,Qf,Qg,Qh,reduceCtorEq,↓reduceIte,Na,Nb,Nc,Nk,Nf,Ng,Nh,Za,Zb,Zc,TT,e1,e3,e5,fD,fO,FZ,k1,k2,k3,m1,m2,m3,d0,d1,d2,d3,a1,a2,a3,QG,xm,Se,Se.symm,j1,j3,ae,oV,cz,hlen,gw];refine⟨by omega,hK _ _ ?_⟩;clear hK K;simp only[aq,aA,if_true,if_false];refine bq _ _ ?_;clear bq K3;refine jD (Ai @e5 (cS i (by omega))) ?_;refine⟨⟨i+1,by omega,e1,e2,e3,rfl,by rw[HD];exact AS.af _ _ _,by rw[AS.ao _ Se.symm];exact j1,by rw[AS.ao _ qH.symm];exact j2,AS.aF hle Av _⟩,?_⟩;simp only[e5,aB,↓reduceIte];omega
  ·have fO:¬(i:Int)<4:=(by omega);obtain rfl:i=4:=(by omega);refine jB (Ai @e5 (decide_eq_false fO)) ?_;refine wK fun K2 aU=>?_;refine jF ?_;refine aC ?_;simp only[aA,aq,if_true];clear aU K2;refine hK _ _ ?_;clear hK K;rw[fN,hF] at j3;have uX:((wY c).map ae).length=4:=(by rw[List.length_map,Nu]);have bS:=cq (wY c);have eo:List.take 4 ((wY c).map ae)=(wY c).map ae:=List.take_of_length_le (by omega);generalize (wY c).map ae=X at *
   refine jS (Ai @e2 (Ai @e3 (Ai @j2 (Ai @j3 (Ai @uX (Ai @eo (Ai @bS (Ai @qH @qH.symm)))))))) fun K hK=>?_;rw[bD Z X (by omega)];refine⟨by omega,hK _ _ ?_⟩;clear hK K;refine a7 ?_;refine eQ (v:=.agg X) (o:=o2) (off:=0) e2 (AS.af _ _ _) (by rw[T.Ta];decide) (by simp only[↓DN,Qa,Qb,Qc,Qd,Qe,Qf,Qg,Qh,reduceCtorEq,↓reduceIte,Na,Nb,Nc,Nk,Nf,Ng,Nh,Za,Zb,Zc,TT,uX,eo]) ?_;exact⟨_,s,AV.aE.refl _,AS.aF hle xag _,rfl,rfl⟩
theorem wj{s:AS}{o p q r:Nat}{x y z:List AV}(h:(if r=q then some z else if r=p then some y else if r=o then some x else s.aw r)=none):r≠q∧r≠p∧r≠o∧s.aw r=none:=by
 by_cases h1:r=q
 ·rw[if_pos h1] at h;cases h
 ·rw[if_neg h1] at h;obtain⟨h2,h3,h4⟩:=lE h;exact⟨h1,h2,h3,h4⟩
theorem xah(a:Nat):iW (a:Int) 16=((a%16:Nat):Int):=lP a 16
theorem sA:¬(16:Int)=0:=by decide
def vx(b:List UInt8)(oA:Nat):List UInt8:=(List.range 4).map fun i=>Aes.sh b (4*oA+i)
def pf(b:List UInt8)(last:Bool)(n:Nat):UInt8:=(Aes.IJ b last).getD n 0
def pg(b:List UInt8)(last:Bool)(oA:Nat):List UInt8:=(List.range 4).map fun i=>pf b last (4*oA+i)
theorem Kb(b:List UInt8)(oA:Nat)(h:oA<4):vx b oA=pg b true oA:=by
 unfold vx pg;apply List.map_congr_left;intro i hi;have:=List.mem_range.1 hi;rw[pf,Aes.IK b true _ (by omega),if_pos rfl]
theorem xo(b:List UInt8)(oA i:Nat)(h:i<4):(vx b oA).getD i 0=Aes.sh b (4*oA+i):=Aes.vw _ 4 i 0 h
theorem HE(b:List UInt8)(oA:Nat)(h:oA<4):wY (vx b oA)=pg b false oA:=by
 unfold wY pg;apply List.map_congr_left;intro i hi;have hi4:=List.mem_range.1 hi;rw[pf,Aes.IK b false _ (by omega)];simp only[Bool.false_eq_true,if_false];have e1:(4*oA+i)/4=oA:=(by omega);have e2:(4*oA+i)%4=i:=(by omega);rw[e1,e2];unfold Aes.mx;simp only[xo b oA i hi4,xo b oA ((i+1)%4) (by omega),xo b oA ((i+2)%4) (by omega),xo b oA ((i+3)%4) (by omega)]
theorem xai(b:List UInt8)(oA row:Nat)(h:row<4):Aes.S (b.getD ((4*(oA+row)+row)%16) 0)=Aes.sh b (4*oA+row):=by
 have e1:(4*oA+row)/4=oA:=(by omega);have e2:(4*oA+row)%4=row:=(by omega);have e3:(4*(oA+row)+row)%16=4*((oA+row)%4)+row:=(by omega);rw[Aes.sh,e1,e2,e3]
theorem Nv(b:List UInt8)(last:Bool)(G:Nat→UInt8)(oA:Nat):bp (ba (pf b last) G 16 (4*oA)) (4*oA) ((pg b last oA).map ae)=ba (pf b last) G 16 (4*(oA+1)):=by
 have e:(pg b last oA).map ae=[bV (pf b last (4*oA)),bV (pf b last (4*oA+1)),bV (pf b last (4*oA+1+1)),bV (pf b last (4*oA+1+1+1))]:=rfl;rw[e];simp only[bp];rw[dZ _ _ _ _ _ rfl,dZ _ _ _ _ _ rfl,dZ _ _ _ _ _ rfl,dZ _ _ _ _ _ rfl];rfl
theorem Sf:([AV.v (.int .u8 0),AV.v (.int .u8 0),AV.v (.int .u8 0),AV.v (.int .u8 0),AV.v (.int .u8 0),AV.v (.int .u8 0),AV.v (.int .u8 0),AV.v (.int .u8 0),AV.v (.int .u8 0),AV.v (.int .u8 0),AV.v (.int .u8 0),AV.v (.int .u8 0),AV.v (.int .u8 0),AV.v (.int .u8 0),AV.v (.int .u8 0),AV.v (.int .u8 0)]:List AV)=List.replicate 16 (bV 0):=rfl
theorem z4:([AV.v (.int .u8 0),AV.v (.int .u8 0),AV.v (.int .u8 0),AV.v (.int .u8 0)]:List AV)=List.replicate 4 (bV 0):=rfl
theorem BS(i:Nat)(h:i<1000):ia .i64 4 (i:Int)=((4*i:Nat):Int):=by
 rw[dJ (by omega)];omega
theorem zp(b:List UInt8)(hb:b.length=16)(last:Bool)(s:AS):
  aj prog Γ 242 [.agg (b.map ae),.agg (Aes.sb.map ae),.v (.bool last)] s (fun r s'=>r=.agg ((Aes.IJ b last).map ae)∧s'=s):=by
 refine aa func242 rfl ntmps242 results242 (by simp) ?_;have Hs:(b.map ae).length=16:=(by rw[List.length_map,hb]);have tG:(Aes.sb.map ae).length=256:=(by rw[List.length_map,Aes.sv]);refine jQ fun K hK=>?_;intro o3 Au o4 Db;obtain⟨QH,vn⟩:=AS.ff Db;intro o6 Ku;obtain⟨h64,B6,xaj⟩:=lE Ku;rw[Sf];refine hK _ _ ?_;clear hK K;refine jQ fun K hK=>?_;intro o7 DI;obtain⟨S4,h74,h73,xak⟩:=wj DI;rw[Sf];refine hK _ _ ?_;clear hK K;generalize mu:(((s.set o3 (b.map ae)).set o4 (Aes.sb.map ae)).set o6 (List.replicate 16 (bV 0))).set o7 (List.replicate 16 (bV 0))=s0 at *
 have j3:s0.aw o3=some (b.map ae):=(by rw[←mu,AS.ao _ h73.symm,AS.ao _ B6.symm,AS.ao _ QH.symm,AS.af]);have j4:s0.aw o4=some (Aes.sb.map ae):=(by rw[←mu,AS.ao _ h74.symm,AS.ao _ h64.symm,AS.af]);have j6:s0.aw o6=some (List.replicate 16 (bV 0)):=(by rw[←mu,AS.ao _ S4.symm,AS.af]);have j7:s0.aw o7=some (List.replicate 16 (bV 0)):=(by rw[←mu];exact AS.af _ _ _);have hle:s.le s0:=(by rw[←mu];exact AS.aF (AS.aF (AS.aF (AS.aF (AS.le.refl s) Au _) vn _) xaj _) xak _);clear mu Db Ku DI;have sQ:(List.replicate 16 (bV 0)).length=16:=(by simp);rw[←iT (pf b last) 16] at j7;generalize List.replicate 16 (bV 0)=Z at *
 refine wK fun K hK=>?_;refine jA ?_;refine ag ?_;refine aD (fun E s1=>∃i:Nat,i≤4∧E 2=.v (.bool last)∧E 3=.ptr o3 0∧E 4=.ptr o4 0∧E 6=.ptr o6 0∧E 7=.ptr o7 0∧E 11=.v (.int .i64 i)∧s1.aw o7=some (ba (pf b last) (fun _=>0) 16 (4*i))∧s1.aw o3=some (b.map ae)∧s1.aw o4=some (Aes.sb.map ae)∧s1.aw o6=some Z∧s.le s1)
  (fun E _=>match E 11 with |.v (.int _ i)=>4-i.toNat|_=>0) ?_ ?_
 ·exact⟨0,by omega,by simp only[aB,bx,Nc,↓reduceIte];rfl,rfl,rfl,rfl,rfl,rfl,j7,j3,j4,j6,hle⟩
 ·clear j3 j4 j6 j7 hle;rintro E1 s1 ⟨i,hi,e2,e3,e4,e6,e7,wM,j7,j3,j4,j6,hle⟩ -
  by_cases aY:i<4
  ·have fO:(i:Int)<4:=(by omega);refine jB (Ai @wM (decide_eq_true fO)) ?_;refine wK fun K2 aU=>?_;refine jE ?_;refine ab ?_;refine aU _ _ ?_;clear aU K2;refine wK fun K3 bq=>?_;refine ag ?_;refine jB @wM ?_;refine jQ fun K hK=>?_;intro o9 Nw;rw[z4];refine hK _ _ ?_;clear hK K;have n93:o9≠o3:=(fun e=>by rw[e,j3] at Nw;cases Nw);have n94:o9≠o4:=(fun e=>by rw[e,j4] at Nw;cases Nw);have n96:o9≠o6:=(fun e=>by rw[e,j6] at Nw;cases Nw);have n97:o9≠o7:=(fun e=>by rw[e,j7] at Nw;cases Nw);have Og:s.aw o9=none:=by
    cases h:s.aw o9 with
    |none=>rfl
    |some cs=>rw[hle.aw _ _ h] at Nw;cases Nw
   generalize nU:s1.set o9 (List.replicate 4 (bV 0))=s2 at *
   have q3:s2.aw o3=some (b.map ae):=(by rw[←nU,AS.ao _ n93.symm];exact j3);have q4:s2.aw o4=some (Aes.sb.map ae):=(by rw[←nU,AS.ao _ n94.symm];exact j4);have q6:s2.aw o6=some Z:=(by rw[←nU,AS.ao _ n96.symm];exact j6);have q7:s2.aw o7=some (ba (pf b last) (fun _=>0) 16 (4*i)):=(by rw[←nU,AS.ao _ n97.symm];exact j7);have q9:s2.aw o9=some (List.replicate 4 (bV 0)):=(by rw[←nU];exact AS.af _ _ _);have eW:s.le s2:=(by rw[←nU];exact AS.aF hle Og _);clear nU j3 j4 j6 j7 Nw hle;rw[←iT (fun r=>Aes.sh b (4*i+r)) 4] at q9;refine wK fun K hK=>?_;refine jA ?_;refine ag ?_;refine aD (fun E s3=>∃r:Nat,r≤4∧E 2=.v (.bool last)∧E 3=.ptr o3 0∧E 4=.ptr o4 0∧E 6=.ptr o6 0∧E 7=.ptr o7 0∧E 8=.v (.int .i64 i)∧E 9=.ptr o9 0∧E 11=.v (.int .i64 i)∧E 14=.v (.int .i64 r)∧s3.aw o9=some (ba (fun r=>Aes.sh b (4*i+r)) (fun _=>0) 4 r)∧s3.aw o7=some (ba (pf b last) (fun _=>0) 16 (4*i))∧s3.aw o3=some (b.map ae)∧s3.aw o4=some (Aes.sb.map ae)∧s3.aw o6=some Z∧s.le s3)
    (fun E _=>match E 14 with |.v (.int _ i)=>4-i.toNat|_=>0) ?_ ?_
   ·exact⟨0,by omega,e2,e3,e4,e6,e7,rfl,rfl,wM,rfl,q9,q7,q3,q4,q6,eW⟩
   ·clear q3 q4 q6 q7 q9 eW;rintro E4 s3 ⟨r,hr,g2,g3,g4,g6,g7,g8,g9,g11,g14,q9,q7,q3,q4,q6,eW⟩ -
    by_cases B8:r<4
    ·have mR:(r:Int)<4:=(by omega);refine jB (Ai @g14 (decide_eq_true mR)) ?_;refine wK fun K6 kU=>?_;refine jE ?_;refine ab ?_;refine kU _ _ ?_;clear kU K6;refine wK fun K7 Fe=>?_;refine ag ?_;refine jB @g14 ?_;have cz:=dZ (fun r=>Aes.sh b (4*i+r)) (fun _=>0) 4 r _ rfl;rw[←xai b i r B8] at cz;have hlen:=dq (fun r=>Aes.sh b (4*i+r)) (fun _=>0) 4 r;have a0:=gg i r (by omega);have a1:=BS (i+r) (by omega);have a2:=gg (4*(i+r)) r (by omega);have a3:=xah (4*(i+r)+r);have db:=dv (l:=b) ((4*(i+r)+r)%16) (by omega);have k0:(0:Int)≤(((4*(i+r)+r)%16:Nat):Int):=(by omega);have k1:(((4*(i+r)+r)%16:Nat):Int)<((16:Nat):Int):=(by omega);generalize (4*(i+r)+r)%16=m at *
     have hm:=(b.getD m 0).toNat_lt;have ds:=dv (l:=Aes.sb) (b.getD m 0).toNat (by rw[Aes.sv];omega);rw[show Aes.sb.getD (b.getD m 0).toNat 0=Aes.S (b.getD m 0) from rfl] at ds;generalize Aes.S (b.getD m 0)=y at *
     generalize b.getD m 0=x at *
     have k2:(0:Int)≤((x.toNat:Nat):Int):=(by omega);have k3:((x.toNat:Nat):Int)<((256:Nat):Int):=(by omega);have FX:(0:Int)≤(r:Int):=(by omega);have re:(r:Int)<((4:Nat):Int):=(by omega);generalize HD:ba (fun r=>Aes.sh b (4*i+r)) (fun _=>0) 4 (r+1)=R' at *
     generalize ba (fun r=>Aes.sh b (4*i+r)) (fun _=>0) 4 r=R at *
     generalize hY1:b.map ae=Y1 at *
     generalize hY2:Aes.sb.map ae=Y2 at *
     refine wE fun K hK=>?_;simp only[↓DN,Qa,Qb,Qc,Qd,Qe,Qf,Qg,Qh,reduceCtorEq,↓reduceIte,Na,Nb,Nc,Nk,Nf,Ng,Nh,Za,Zb,Zc,TT,g3,g4,g8,g9,g14,FX,mR,re,k0,k1,k2,k3,db,ds,a0,a1,a2,a3,sA,n93,n93.symm,n94,n94.symm,QH,QH.symm,q3,q4,q9,ae,cz,hlen,Hs,tG];refine⟨by omega,hK _ _ ?_⟩;clear hK K;simp only[aq,aA,if_true,if_false];refine Fe _ _ ?_;clear Fe K7;refine jD (Ai @g14 (cS r (by omega))) ?_;refine⟨⟨r+1,by omega,g2,g3,g4,g6,g7,g8,g9,g11,rfl,by rw[HD];exact AS.af _ _ _,by rw[AS.ao _ n97.symm];exact q7,by rw[AS.ao _ n93.symm,q3],by rw[AS.ao _ n94.symm,q4],by rw[AS.ao _ n96.symm];exact q6,AS.aF eW Og _⟩,?_⟩;simp only[g14,aB,↓reduceIte];omega
    ·have mR:¬(r:Int)<4:=(by omega);obtain rfl:r=4:=(by omega);refine jB (Ai @g14 (decide_eq_false mR)) ?_;refine wK fun K6 kU=>?_;refine jF ?_;refine aC ?_;simp only[aA,aq,if_true];clear kU K6;refine hK _ _ ?_;clear hK K;rw[fN,show(List.range 4).map (fun r=>Aes.sh b (4*i+r))=vx b i from rfl] at q9;refine wK fun K hK=>?_;have Sg:∀(E5:Env)(s4:AS),E5 2=.v (.bool last)→E5 3=.ptr o3 0→E5 4=.ptr o4 0→E5 6=.ptr o6 0→E5 7=.ptr o7 0→E5 8=.v (.int .i64 i)→E5 9=.ptr o9 0→E5 11=.v (.int .i64 i)→
       s4.aw o9=some ((pg b last i).map ae)→s4.aw o7=some (ba (pf b last) (fun _=>0) 16 (4*i))→s4.aw o3=some (b.map ae)→s4.aw o4=some (Aes.sb.map ae)→s4.aw o6=some Z→s.le s4→K E5 s4:=by
      intro E5 s4 f2 f3 f4 f6 f7 f8 f9 f11 t9 t7 t3 t4 t6 fM;refine hK _ _ ?_;clear hK K;have Sw:=Nv b last (fun _=>0) i;have gw:((pg b last i).map ae).length=4:=(by simp[pg]);have bS:=cq (pg b last i);have eo:List.take 4 ((pg b last i).map ae)=(pg b last i).map ae:=List.take_of_length_le (by omega);have oZ:=dq (pf b last) (fun _=>0) 16 (4*i);generalize hC:(pg b last i).map ae=C at *
      generalize hF':ba (pf b last) (fun _=>0) 16 (4*(i+1))=F' at *
      generalize ba (pf b last) (fun _=>0) 16 (4*i)=F at *
      have a1:=BS i (by omega);have l0:(0:Int)≤((4*i:Nat):Int):=(by omega);have l1:((4*i:Nat):Int)≤((16:Nat):Int):=(by omega);have l2:¬(((16:Nat):Int)=((4*i:Nat):Int)):=(by omega);have l3:min 4 (16-4*i)=4:=(by omega);refine fw T.mixed [4] (by kernel_rfl) ?_;intro K hK;refine jN (Ai @f7 (Ai @f8 (Ai @f9 (Ai @a1 (Ai @l0 (Ai @l1 (Ai @l2 (Ai @l3 (Ai (show((16:Nat):Int)≤((16:Nat):Int) from by decide) (Ai (show(0:Int)≤((4:Nat):Int) from by decide) (Ai (show((4:Nat):Int)≤((4:Nat):Int) from by decide) (Ai (show ¬(((4:Nat):Int)=0) from by decide) (Ai @t9 (Ai @t7 (Ai @gw (Ai @bS (Ai @eo (Ai @oZ (Ai @Sw (Ai @n97 @n97.symm)))))))))))))))))))) ?_;refine⟨by omega,hK _ _ ?_⟩;clear hK K;simp only[aq,aA,if_true,if_false];refine bq _ _ ?_;clear bq K3;refine jD (Ai @f11 (cS i (by omega))) ?_;refine⟨⟨i+1,by omega,f2,f3,f4,f6,f7,rfl,by rw[hF'];exact AS.af _ _ _,by rw[AS.ao _ h73.symm];exact t3,by rw[AS.ao _ h74.symm];exact t4,by rw[AS.ao _ S4.symm];exact t6,AS.aF fM xak _⟩,?_⟩;simp only[wM,aB,↓reduceIte];omega
     clear hK bq;cases last with
     |true=>
      rw[Kb b i aY] at q9;refine jB @g2 ?_;refine jF ?_;refine ab ?_;exact Sg _ _ g2 g3 g4 g6 g7 g8 g9 g11 q9 q7 q3 q4 q6 eW
     |false=>
      have xao:(wY (vx b i)).map ae=(pg b false i).map ae:=(by rw[HE b i aY]);have xz:((vx b i).map ae).length=4:=(by simp[vx]);have hpc:=Dp (Γ:=Γ) (vx b i) (by simp[vx]) s3;have hpk:List.take 4 ((vx b i).map ae)=(vx b i).map ae:=List.take_of_length_le (by omega);rw[xao] at hpc;have gw:((pg b false i).map ae).length=4:=(by simp[pg]);have bS:=cq (pg b false i);generalize hC:(pg b false i).map ae=C at *
      generalize (vx b i).map ae=Pc at *
      refine jB @g2 ?_;refine jE ?_;refine jU (Ai @g9 (Ai @q9 (Ai @xz @hpk))) fun K hK=>?_;refine ad hpc ?_;rintro r5 s5 ⟨rfl,rfl⟩;refine jN (Ai @g9 (Ai @q9 (Ai @xz (Ai @gw @bS)))) ?_;rw[bD Pc C (by omega)];refine hK _ _ ?_;clear hK K;exact Sg _ _ g2 g3 g4 g6 g7 g8 g9 g11 (AS.af _ _ _) (by rw[AS.ao _ n97.symm];exact q7) (by rw[AS.ao _ n93.symm];exact q3) (by rw[AS.ao _ n94.symm];exact q4) (by rw[AS.ao _ n96.symm];exact q6) (AS.aF eW Og _)
  ·have fO:¬(i:Int)<4:=(by omega);obtain rfl:i=4:=(by omega);refine jB (Ai @wM (decide_eq_false fO)) ?_;refine wK fun K2 aU=>?_;refine jF ?_;refine aC ?_;simp only[aA,aq,if_true];clear aU K2;refine hK _ _ ?_;clear hK K;rw[show 4*4=16 from rfl,fN,show(List.range 16).map (pf b last)=Aes.IJ b last from mn (Aes.Di b last)] at j7;have uX:((Aes.IJ b last).map ae).length=16:=(by rw[List.length_map,Aes.Di]);have bS:=cq (Aes.IJ b last);have eo:List.take 16 ((Aes.IJ b last).map ae)=(Aes.IJ b last).map ae:=List.take_of_length_le (by omega);generalize (Aes.IJ b last).map ae=X at *
   refine jS (Ai @e6 (Ai @e7 (Ai @j6 (Ai @j7 (Ai @uX (Ai @eo (Ai @bS (Ai @S4 @S4.symm)))))))) fun K hK=>?_;rw[bD Z X (by omega)];refine⟨by omega,hK _ _ ?_⟩;clear hK K;refine a7 ?_;refine eQ (v:=.agg X) (o:=o6) (off:=0) e6 (AS.af _ _ _) (by rw[T.Lt];decide) (by simp only[↓DN,Qa,Qb,Qc,Qd,Qe,Qf,Qg,Qh,reduceCtorEq,↓reduceIte,Na,Nb,Nc,Nk,Nf,Ng,Nh,Za,Zb,Zc,TT,uX,eo]) ?_;exact⟨_,s,AV.aE.refl _,AS.aF hle xaj _,rfl,rfl⟩
theorem z167:bo prog 254=some (List.replicate 176 (bV 0)):=by kernel_rfl
theorem zq(F G:Nat→UInt8)(N:Nat):∀(xs:List UInt8)(i:Nat),(∀k,k<xs.length→xs.getD k 0=F (i+k))→bp (ba F G N i) i (xs.map ae)=ba F G N (i+xs.length)
  |[],i,_=>by simp[bp]
  |x::xs,i,h=>by
    have h0:=h 0 (by simp);simp only[List.getD_cons_zero,Nat.add_zero] at h0;rw[List.map_cons,bp,show ae x=bV x from rfl,dZ F G N i x h0,zq F G N xs (i+1) (fun k hk=>by
      have:=h (k+1) (by simp;omega);rw[List.getD_cons_succ] at this;rw[this];congr 1;omega)]
    simp only[List.length_cons];congr 1;omega
def mN(key:List UInt8):List UInt8:=(List.range 176).map (Aes.ak key)
theorem BT(key:List UInt8):(mN key).length=176:=by simp[mN]
theorem BU(key:List UInt8)(hk:key.length=16)(G:Nat→UInt8)(q m:Nat)(hq:q<11)(hm:(q+1)*16≤m):List.take 16 (List.drop (q*16) (ba (Aes.ak key) G 176 m))=(Aes.kr key q).map ae:=by
  have hl:=Aes.sw hk q;apply List.ext_getElem
  · simp[ba,hl];omega
  · intro k h1 h2;have Nx:k<16:=(by simpa[hl] using h2);simp only[List.getElem_take,List.getElem_drop,ba,List.getElem_map,List.getElem_range];rw[if_pos (by omega),Aes.ak,show(q*16+k)/16=q by omega,show(q*16+k)%16=k by omega];simp[List.getElem?_eq_getElem (show k<(Aes.kr key q).length by omega)]
def DJ(key:List UInt8)(q n:Nat):UInt8:=if n=(q+1)*16 then Aes.ak key n ^^^ Aes.Kt q else Aes.ak key n
theorem QI(key:List UInt8)(hk:key.length=16)(q i:Nat)(hi:i<4):(Aes.kr key q).getD i 0 ^^^ Aes.S ((Aes.kr key q).getD (12+(i+1)%4) 0)=DJ key q ((q+1)*16+i):=by
  have hl:=Aes.T7 hk q i hi;have e1:Aes.ak key (16*q+i)=(Aes.kr key q).getD i 0:=(by rw[Aes.ak,show(16*q+i)/16=q by omega,show(16*q+i)%16=i by omega]);have e2:Aes.ak key (16*q+(12+(i+1)%4))=(Aes.kr key q).getD (12+(i+1)%4) 0:=(by rw[Aes.ak,show(16*q+(12+(i+1)%4))/16=q by omega,show(16*q+(12+(i+1)%4))%16=12+(i+1)%4 by omega]);rw[e1,e2] at hl;rw[DJ,show(q+1)*16+i=16*(q+1)+i by omega];by_cases h0:i=0
  · rw[if_pos h0] at hl;rw[if_pos (by omega),hl,UInt8.xor_assoc,UInt8.xor_self,UInt8.xor_zero]
  · rw[if_neg h0] at hl;rw[if_neg (by omega),hl]
theorem Ny(key:List UInt8)(G:Nat→UInt8)(q:Nat):ba (DJ key q) G 176 ((q+1)*16)=ba (Aes.ak key) G 176 ((q+1)*16):=by
  unfold ba;apply List.map_congr_left;intro n _;by_cases h:n<(q+1)*16
  · rw[if_pos h,if_pos h,DJ,if_neg (by omega)]
  · rw[if_neg h,if_neg h]
theorem QJ(key:List UInt8)(G:Nat→UInt8)(q:Nat)(hq:q<10):(ba (DJ key q) G 176 ((q+1)*16+4)).set ((q+1)*16) (bV (DJ key q ((q+1)*16) ^^^ Aes.Kt q))=ba (Aes.ak key) G 176 ((q+1)*16+4):=by
  have e:DJ key q ((q+1)*16) ^^^ Aes.Kt q=Aes.ak key ((q+1)*16):=by
    rw[DJ,if_pos rfl,UInt8.xor_assoc,UInt8.xor_self,UInt8.xor_zero]
  rw[e];apply List.ext_getElem?;intro k;by_cases h:k=(q+1)*16
  · subst h;rw[List.getElem?_set_self (by rw[dq];omega)];simp only[ba,List.getElem?_map];rw[List.getElem?_range (by omega)];simp only[Option.map_some];rw[if_pos (by omega)];rfl
  · rw[List.getElem?_set_ne (by omega)];simp only[ba,List.getElem?_map];by_cases hk:k<176
    · rw[List.getElem?_range hk];simp only[Option.map_some];rw[DJ,if_neg h]
    · rw[List.getElem?_eq_none (by simp;omega)];rfl
theorem Kc(key:List UInt8)(hk:key.length=16)(q i:Nat)(h4:4≤i)(hi:i<16):(Aes.kr key q).getD i 0 ^^^ Aes.ak key ((q+1)*16+(i-4))=Aes.ak key ((q+1)*16+i):=by
  have hl:=Aes.Qr hk q i h4 hi;have e1:Aes.ak key (16*q+i)=(Aes.kr key q).getD i 0:=(by rw[Aes.ak,show(16*q+i)/16=q by omega,show(16*q+i)%16=i by omega]);rw[e1] at hl;rw[show(q+1)*16+i=16*(q+1)+i by omega,show(q+1)*16+(i-4)=16*(q+1)+(i-4) by omega,hl]
theorem xap(m:Nat)(h:m<1000):dQ .i64 12 (m:Int)=((12+m:Nat):Int):=by
  rw[ec (by omega)];omega
theorem xdN(x:UInt8):Aes.sb.getD x.toNat 0=Aes.S x:=rfl
theorem AH(key:List UInt8)(hk:key.length=16)(s:AS):
  aj prog Γ 240 [.agg (key.map ae),.agg (Aes.sb.map ae)] s (fun r s'=>r=.agg ((mN key).map ae)∧s'=s):=by
 refine aa func240 rfl ntmps240 results240 (by simp) ?_;have uB:(key.map ae).length=16:=(by rw[List.length_map,hk]);have Up:List.take 16 (key.map ae)=key.map ae:=List.take_of_length_le (by omega);have xaq:=cq key;have tG:(Aes.sb.map ae).length=256:=(by rw[List.length_map,Aes.sv]);refine jS @z167 fun K hK=>?_;intro o2 qQ o3 Au;obtain⟨qH,Av⟩:=AS.ff Au;intro o4 Db;obtain⟨QH,JZ,vn⟩:=lE Db;refine hK _ _ ?_;clear hK K;refine jS @z167 fun K hK=>?_;intro o5 Fs;obtain⟨Ia,Uq,P3,Hp⟩:=wj Fs;refine hK _ _ ?_;clear hK K;generalize mu:(((s.set o2 (key.map ae)).set o3 (Aes.sb.map ae)).set o4 (List.replicate 176 (bV 0))).set o5 (List.replicate 176 (bV 0))=s0 at *
 have j2:s0.aw o2=some (key.map ae):=(by rw[←mu,AS.ao _ P3.symm,AS.ao _ JZ.symm,AS.ao _ qH.symm,AS.af]);have j3:s0.aw o3=some (Aes.sb.map ae):=(by rw[←mu,AS.ao _ Uq.symm,AS.ao _ QH.symm,AS.af]);have j4:s0.aw o4=some (List.replicate 176 (bV 0)):=(by rw[←mu,AS.ao _ Ia.symm,AS.af]);have j5:s0.aw o5=some (List.replicate 176 (bV 0)):=(by rw[←mu];exact AS.af _ _ _);have hle:s.le s0:=(by rw[←mu];exact AS.aF (AS.aF (AS.aF (AS.aF (AS.le.refl s) qQ _) Av _) vn _) Hp _);clear mu Au Db Fs;have sQ:(List.replicate 176 (bV 0)).length=176:=(by simp);rw[←iT (Aes.ak key) 176] at j5;generalize List.replicate 176 (bV 0)=Z at *
 have NA:=zq (Aes.ak key) (fun _=>0) 176 key 0 (fun k h=>by rw[Nat.zero_add,Aes.T8 k (by omega)]);rw[Nat.zero_add,hk] at NA;have uA:=dq (Aes.ak key) (fun _=>0) 176 0;generalize ba (Aes.ak key) (fun _=>0) 176 0=R0 at *
 refine jB (Ai @j2 (Ai @j5 (Ai @uB (Ai @Up (Ai @xaq (Ai @uA (Ai @NA (Ai @P3 (Ai @P3.symm (show(0:Int)<((11:Nat):Int) from by decide)))))))))) ?_;clear NA;generalize gV:s0.set o5 (ba (Aes.ak key) (fun _=>0) 176 16)=s1 at *
 have q3:s1.aw o3=some (Aes.sb.map ae):=(by rw[←gV,AS.ao _ Uq.symm];exact j3);have q4:s1.aw o4=some Z:=(by rw[←gV,AS.ao _ Ia.symm];exact j4);have q5:s1.aw o5=some (ba (Aes.ak key) (fun _=>0) 176 16):=(by rw[←gV];exact AS.af _ _ _);have mw:s.le s1:=(by rw[←gV];exact AS.aF hle Hp _);clear gV j2 j3 j4 j5 hle;refine jA ?_;refine wK fun K hK=>?_;refine jA ?_;refine ag ?_;refine aD (fun E s2=>∃q:Nat,q≤10∧E 3=.ptr o3 0∧E 4=.ptr o4 0∧E 5=.ptr o5 0∧E 6=bV (Aes.Kt q)∧E 7=.v (.int .i64 ((q+1:Nat):Int))∧s2.aw o3=some (Aes.sb.map ae)∧s2.aw o4=some Z∧s2.aw o5=some (ba (Aes.ak key) (fun _=>0) 176 ((q+1)*16))∧s.le s2)
  (fun E _=>match E 7 with |.v (.int _ i)=>11-i.toNat|_=>0) ?_ ?_
 ·exact⟨0,by omega,rfl,rfl,rfl,rfl,rfl,q3,q4,q5,mw⟩
 ·clear q3 q4 q5 mw;rintro E1 s2 ⟨q,hq,e3,e4,e5,e6,e7,j3,j4,j5,hle⟩ -
  refine wK fun K2 aU=>?_;by_cases LP:q<10
  ·have hl:=Aes.sw hk q;refine jB (Ai @e7 (decide_eq_true (show((q+1:Nat):Int)≤10 by omega))) ?_;refine jE ?_;refine ab ?_;refine aU _ _ ?_;clear aU K2;refine wK fun K3 bq=>?_;refine ag ?_;have hld:=BU key hk (fun _=>0) q ((q+1)*16) (by omega) (Nat.le_refl _);have p6:dr .i64 ((q+1:Nat):Int) 1=((q:Nat):Int):=gP (q+1) 1 (by omega) (by omega);have oZ:=dq (Aes.ak key) (fun _=>0) 176 ((q+1)*16);have LA:((Aes.kr key q).map ae).length=16:=(by rw[List.length_map,hl]);have xar:=cq (Aes.kr key q);have k0:(0:Int)≤((q:Nat):Int):=(by omega);have k1:((q:Nat):Int)<((11:Nat):Int):=(by omega);have k2:q*16+16≤176:=(by omega);have B7:16≤(List.drop (q*16) (ba (Aes.ak key) (fun _=>0) 176 ((q+1)*16))).length:=(by rw[List.length_drop,oZ];omega);generalize hO:ba (Aes.ak key) (fun _=>0) 176 ((q+1)*16)=O at *
   generalize hW:(Aes.kr key q).map ae=W at *
   refine wS fun K hK=>?_;simp only[↓DN,Qa,Qb,Qc,Qd,Qe,Qf,Qg,Qh,reduceCtorEq,↓reduceIte,Na,Nb,Nc,Nk,Nf,Ng,Nh,Za,Zb,Zc,TT,e5,e7,p6,j5,hld,LA,xar,k0,k1,k2,oZ,B7,Nat.le_refl];intro o8 HF;rw[Sf,bD (List.replicate 16 (bV 0)) W (by rw[LA];simp)];refine hK _ _ ?_;clear hK K;have n83:o8≠o3:=(fun e=>by rw[e,j3] at HF;cases HF);have n84:o8≠o4:=(fun e=>by rw[e,j4] at HF;cases HF);have Sh:o8≠o5:=(fun e=>by rw[e,j5] at HF;cases HF);have hs8:s.aw o8=none:=by
    cases h:s.aw o8 with
    |none=>rfl
    |some cs=>rw[hle.aw _ _ h] at HF;cases HF
   generalize N8:s2.set o8 W=s3 at *
   have q3:s3.aw o3=some (Aes.sb.map ae):=(by rw[←N8,AS.ao _ n83.symm];exact j3);have q4:s3.aw o4=some Z:=(by rw[←N8,AS.ao _ n84.symm];exact j4);have q5:s3.aw o5=some O:=(by rw[←N8,AS.ao _ Sh.symm];exact j5);have q8:s3.aw o8=some W:=(by rw[←N8];exact AS.af _ _ _);have gH:s.le s3:=(by rw[←N8];exact AS.aF hle hs8 _);clear N8 j3 j4 j5 HF hle;have k3:(0:Int)≤((q+1:Nat):Int):=(by omega);have k4:((q+1:Nat):Int)<((11:Nat):Int):=(by omega);refine jB (Ai @e5 (Ai @e7 (Ai @k3 @k4))) ?_;rw[←hO,←Ny key (fun _=>0) q] at q5;clear hld oZ B7 hO O;refine wK fun K4 dM=>?_;refine jA ?_;refine ag ?_;refine aD (fun E s4=>∃i:Nat,i≤4∧E 3=.ptr o3 0∧E 4=.ptr o4 0∧E 5=.ptr o5 0∧E 6=bV (Aes.Kt q)∧E 7=.v (.int .i64 ((q+1:Nat):Int))∧E 8=.ptr o8 0∧E 9=.ptr o5 ((q+1)*16)∧E 24=.v (.int .i64 i)∧s4.aw o3=some (Aes.sb.map ae)∧s4.aw o4=some Z∧s4.aw o5=some (ba (DJ key q) (fun _=>0) 176 ((q+1)*16+i))∧s4.aw o8=some W∧s.le s4)
    (fun E _=>match E 24 with |.v (.int _ i)=>4-i.toNat|_=>0) ?_ ?_
   ·exact⟨0,by omega,e3,e4,e5,e6,e7,rfl,rfl,rfl,q3,q4,q5,q8,gH⟩
   ·clear q3 q4 q5 q8 gH;rintro E4 s4 ⟨i,hi,g3,g4,g5,g6,g7,g8,g9,g24,q3,q4,q5,q8,gH⟩ -
    by_cases aY:i<4
    ·refine jB (Ai @g24 (decide_eq_true (show(i:Int)<4 by omega))) ?_;refine wK fun K6 kU=>?_;refine jE ?_;refine ab ?_;refine kU _ _ ?_;clear kU K6;refine wK fun K7 Fe=>?_;refine ag ?_;refine jB @g24 ?_;have cz:=dZ (DJ key q) (fun _=>0) 176 ((q+1)*16+i) _ (QI key hk q i aY);have hlen:=dq (DJ key q) (fun _=>0) 176 ((q+1)*16+i);have a1:=Nt i (by omega);have a2:=QG (i+1);have a3:=xap ((i+1)%4) (by omega);have d0:=dv (l:=Aes.kr key q) i (by omega);have d1:=dv (l:=Aes.kr key q) (12+(i+1)%4) (by omega);rw[hW] at d0 d1;have m0:(0:Int)≤(i:Int):=(by omega);have m1:(i:Int)<((16:Nat):Int):=(by omega);have m2:(0:Int)≤((12+(i+1)%4:Nat):Int):=(by omega);have m3:((12+(i+1)%4:Nat):Int)<((16:Nat):Int):=(by omega);have mc:(q+1)*16+i+1≤176:=(by omega);have mc2:(q+1)*16+i<176:=(by omega);generalize HD:ba (DJ key q) (fun _=>0) 176 ((q+1)*16+i+1)=R' at *
     generalize ba (DJ key q) (fun _=>0) 176 ((q+1)*16+i)=R at *
     generalize 12+(i+1)%4=m at *
     have hx:=((Aes.kr key q).getD m 0).toNat_lt;have ds:=dv (l:=Aes.sb) ((Aes.kr key q).getD m 0).toNat (by rw[Aes.sv];omega);rw[xdN] at ds;generalize Aes.S ((Aes.kr key q).getD m 0)=y at *
     generalize (Aes.kr key q).getD m 0=x at *
     generalize (Aes.kr key q).getD i 0=v at *
     have m4:(0:Int)≤((x.toNat:Nat):Int):=(by omega);have m5:((x.toNat:Nat):Int)<((256:Nat):Int):=(by omega);generalize hY2:Aes.sb.map ae=Y2 at *
     refine cV T.mixed [(o8,W),(o3,Y2),(o5,R)] [] [4,10,12] [16] (by kernel_rfl) (by simp only[aH,aL,and_true];simp[AS.set,aB,q3,q5,q8]) ?_;intro K hK;simp only[↓bt,↓a8,dx,dt,aR,aV,aH,aL,List.any_cons,List.any_nil,List.contains_cons,List.contains_nil,Nat.reduceBEq,Bool.or_false,Bool.or_true,Bool.or_self,Bool.false_or,↓DN,Qa,Qb,Qc,Qd,Qe,Qf,Qg,Qh,reduceCtorEq,↓reduceIte,Na,Nb,Nc,Nk,Nf,Ng,Nh,Za,Zb,Zc,TT,g3,g5,g8,g9,g24,m0,m1,m2,m3,m4,m5,mc,mc2,d0,d1,ds,a1,a2,a3,xm,n83,n83.symm,Sh,Sh.symm,Uq,Uq.symm,q3,q5,q8,ae,oV,cz,hlen,LA,tG];refine hK _ _ ?_;clear hK K;simp only[aq,aA,if_true,if_false];refine Fe _ _ ?_;clear Fe K7;refine jD (Ai @g24 (cS i (by omega))) ?_;refine⟨⟨i+1,by omega,g3,g4,g5,g6,g7,g8,g9,rfl,by rw[AS.ao _ Uq.symm,q3],by rw[AS.ao _ Ia.symm];exact q4,by rw[show(q+1)*16+(i+1)=(q+1)*16+i+1 from rfl,HD];exact AS.af _ _ _,by rw[AS.ao _ Sh];exact q8,AS.aF gH Hp _⟩,?_⟩;simp only[g24,aB,↓reduceIte];omega
    ·obtain rfl:i=4:=(by omega);refine jB (Ai @g24 (decide_eq_false (show ¬((4:Nat):Int)<4 by decide))) ?_;refine wK fun K6 kU=>?_;refine jF ?_;refine aC ?_;simp only[aA,aq,if_true];clear kU K6;refine dM _ _ ?_;clear dM K4;have xat:=QJ key (fun _=>0) q LP;have Ze:=oz (DJ key q) (fun _=>0) 176 ((q+1)*16+4) ((q+1)*16) (by omega);rw[if_pos (by omega)] at Ze;have hlen:=dq (DJ key q) (fun _=>0) 176 ((q+1)*16+4);generalize HD:ba (Aes.ak key) (fun _=>0) 176 ((q+1)*16+4)=R' at *
     generalize ba (DJ key q) (fun _=>0) 176 ((q+1)*16+4)=R at *
     generalize DJ key q ((q+1)*16)=x at *
     have mc:(q+1)*16+1≤176:=(by omega);have mc2:(q+1)*16<176:=(by omega);refine ef T.mixed [(o5,R)] [] [3] [8] (by kernel_rfl) (by simp only[aH,aL,and_true];simp[AS.set,aB,q5]) ?_;intro K hK;simp only[↓bt,↓a8,dx,dt,aR,aV,aH,aL,List.any_cons,List.any_nil,List.contains_cons,List.contains_nil,Nat.reduceBEq,Bool.or_false,Bool.or_true,Bool.or_self,Bool.false_or,↓DN,Qa,Qb,Qc,Qd,Qe,Qf,Qg,Qh,reduceCtorEq,↓reduceIte,Na,Nb,Nc,Nk,Nf,Ng,Nh,Za,Zb,Zc,TT,g6,g9,mc,mc2,q5,Ze,ae,oV,xat,hlen,show(0:Int)<((16:Nat):Int) from by decide];refine hK _ _ ?_;clear hK K;generalize IW:s4.set o5 R'=s5 at *
     have t3:s5.aw o3=some (Aes.sb.map ae):=(by rw[←IW,AS.ao _ Uq.symm];exact q3);have t4:s5.aw o4=some Z:=(by rw[←IW,AS.ao _ Ia.symm];exact q4);have t5:s5.aw o5=some R':=(by rw[←IW];exact AS.af _ _ _);have t8:s5.aw o8=some W:=(by rw[←IW,AS.ao _ Sh];exact q8);have fY:s.le s5:=(by rw[←IW];exact AS.aF gH Hp _);clear IW q3 q4 q5 q8 gH Ze xat hlen;rw[←HD] at t5;clear HD R';refine wK fun K4 dM=>?_;refine jA ?_;refine ag ?_;refine aD (fun E s6=>∃i:Nat,4≤i∧i≤16∧E 3=.ptr o3 0∧E 4=.ptr o4 0∧E 5=.ptr o5 0∧E 6=bV (Aes.Kt q)∧E 7=.v (.int .i64 ((q+1:Nat):Int))∧E 8=.ptr o8 0∧E 9=.ptr o5 ((q+1)*16)∧E 11=.v (.int .i64 i)∧s6.aw o3=some (Aes.sb.map ae)∧s6.aw o4=some Z∧s6.aw o5=some (ba (Aes.ak key) (fun _=>0) 176 ((q+1)*16+i))∧s6.aw o8=some W∧s.le s6)
      (fun E _=>match E 11 with |.v (.int _ i)=>16-i.toNat|_=>0) ?_ ?_
     ·exact⟨4,by omega,by omega,g3,g4,g5,g6,g7,g8,g9,rfl,t3,t4,t5,t8,fY⟩
     ·clear t3 t4 t5 t8 fY g3 g4 g5 g6 g7 g8 g9;rintro E6 s6 ⟨i,hi4,hi,g3,g4,g5,g6,g7,g8,g9,g11,t3,t4,t5,t8,fY⟩ -
      refine wK fun K6 kU=>?_;by_cases aY:i<16
      ·refine jB (Ai @g11 (decide_eq_true (show(i:Int)<16 by omega))) ?_;refine jE ?_;refine ab ?_;refine kU _ _ ?_;clear kU K6;refine wK fun K7 Fe=>?_;refine ag ?_;have cz:=dZ (Aes.ak key) (fun _=>0) 176 ((q+1)*16+i) _ (Kc key hk q i hi4 aY);have hlen:=dq (Aes.ak key) (fun _=>0) 176 ((q+1)*16+i);have a1:dr .i64 (i:Int) 4=((i-4:Nat):Int):=gP i 4 hi4 (by omega);have d0:=dv (l:=Aes.kr key q) i (by omega);rw[hW] at d0;have d1:=oz (Aes.ak key) (fun _=>0) 176 ((q+1)*16+i) ((q+1)*16+(i-4)) (by omega);rw[if_pos (by omega)] at d1;have m0:(0:Int)≤(i:Int):=(by omega);have m1:(i:Int)<((16:Nat):Int):=(by omega);have m2:(0:Int)≤((i-4:Nat):Int):=(by omega);have m3:((i-4:Nat):Int)<((16:Nat):Int):=(by omega);have mc:(q+1)*16+i+1≤176:=(by omega);have mc2:(q+1)*16+i<176:=(by omega);generalize HD:ba (Aes.ak key) (fun _=>0) 176 ((q+1)*16+i+1)=R' at *
       generalize ba (Aes.ak key) (fun _=>0) 176 ((q+1)*16+i)=R at *
       generalize Aes.ak key ((q+1)*16+(i-4))=x at *
       generalize (Aes.kr key q).getD i 0=v at *
       refine cV T.mixed [(o8,W),(o5,R)] [] [4,10] [14] (by kernel_rfl) (by simp only[aH,aL,and_true];simp[AS.set,aB,t5,t8]) ?_;intro K hK;simp only[↓bt,↓a8,dx,dt,aR,aV,aH,aL,List.any_cons,List.any_nil,List.contains_cons,List.contains_nil,Nat.reduceBEq,Bool.or_false,Bool.or_true,Bool.or_self,Bool.false_or,↓DN,Qa,Qb,Qc,Qd,Qe,Qf,Qg,Qh,reduceCtorEq,↓reduceIte,Na,Nb,Nc,Nk,Nf,Ng,Nh,Za,Zb,Zc,TT,g5,g8,g9,g11,m0,m1,m2,m3,mc,mc2,d0,d1,a1,Sh,Sh.symm,t5,t8,ae,oV,cz,hlen,LA];refine hK _ _ ?_;clear hK K;simp only[aq,aA,if_true,if_false];refine Fe _ _ ?_;clear Fe K7;refine jD (Ai @g11 (cS i (by omega))) ?_;refine⟨⟨i+1,by omega,by omega,g3,g4,g5,g6,g7,g8,g9,rfl,by rw[AS.ao _ Uq.symm];exact t3,by rw[AS.ao _ Ia.symm];exact t4,by rw[show(q+1)*16+(i+1)=(q+1)*16+i+1 from rfl,HD];exact AS.af _ _ _,by rw[AS.ao _ Sh];exact t8,AS.aF fY Hp _⟩,?_⟩;simp only[g11,aB,↓reduceIte];omega
      ·obtain rfl:i=16:=(by omega);refine jB (Ai @g11 (decide_eq_false (show ¬((16:Nat):Int)<16 by decide))) ?_;refine jF ?_;refine aC ?_;simp only[aA,aq,if_true];clear kU K6;refine dM _ _ ?_;clear dM K4;refine jU @g6 fun K hK=>?_;refine ad (lz (Aes.Kt q) _) ?_;rintro r s7 ⟨rfl,rfl⟩;simp only[↓cx,↓bW,bE,↓bt,↓a8,dx,dt,aR,aV,aH,aL,List.any_cons,List.any_nil,DX,Nat.reduceBEq,↓DN,Qa,Qb,Qc,Qd,Qe,Qf,Qg,Qh,reduceCtorEq,↓reduceIte,Na,Nb,Nc,Nk,Nf,Ng,Nh,Za,Zb,Zc,TT];refine hK _ _ ?_;clear hK K;simp only[aq,aA,if_true,if_false];refine bq _ _ ?_;clear bq K3;refine jD (Ai @g7 (cS (q+1) (by omega))) ?_;refine⟨⟨q+1,by omega,g3,g4,g5,rfl,rfl,t3,t4,by rw[show(q+1+1)*16=(q+1)*16+16 by omega];exact t5,fY⟩,?_⟩;simp only[e7,aB,↓reduceIte];omega
  ·obtain rfl:q=10:=(by omega);refine jB (Ai @e7 (decide_eq_false (show ¬((10+1:Nat):Int)≤10 by decide))) ?_;refine jF ?_;refine aC ?_;simp only[aA,aq,if_true];clear aU K2;refine hK _ _ ?_;clear hK K;rw[show(10+1)*16=176 from rfl,fN,show(List.range 176).map (Aes.ak key)=mN key from rfl] at j5;have uX:((mN key).map ae).length=176:=(by rw[List.length_map,BT]);have bS:=cq (mN key);have eo:List.take 176 ((mN key).map ae)=(mN key).map ae:=List.take_of_length_le (by omega);generalize (mN key).map ae=X at *
   refine jS (Ai @e4 (Ai @e5 (Ai @j4 (Ai @j5 (Ai @uX (Ai @eo (Ai @bS (Ai @Ia @Ia.symm)))))))) fun K hK=>?_;rw[bD Z X (by omega)];refine⟨by omega,hK _ _ ?_⟩;clear hK K;refine a7 ?_;refine eQ (v:=.agg X) (o:=o4) (off:=0) e4 (AS.af _ _ _) (by rw[T.S9];decide) (by simp only[↓DN,Qa,Qb,Qc,Qd,Qe,Qf,Qg,Qh,reduceCtorEq,↓reduceIte,Na,Nb,Nc,Nk,Nf,Ng,Nh,Za,Zb,Zc,TT,uX,eo]) ?_;exact⟨_,s,AV.aE.refl _,AS.aF hle vn _,rfl,rfl⟩
theorem QK(key:List UInt8)(hk:key.length=16)(q:Nat)(hq:q<11):List.take 16 (List.drop (q*16) ((mN key).map ae))=(Aes.kr key q).map ae:=by
 have h:=BU key hk (fun _=>0) q 176 hq (by omega);rw[fN] at h;exact h
theorem zr(key b:List UInt8)(hk:key.length=16)(hb:b.length=16)(s:AS):
  aj prog Γ 218 [.agg (key.map ae),.agg (b.map ae)] s (fun r s'=>r=.agg ((Aes.block key b).map ae)∧s'=s):=by
 refine aa func218 rfl ntmps218 results218 (by simp) ?_;have uB:(key.map ae).length=16:=(by rw[List.length_map,hk]);have Up:List.take 16 (key.map ae)=key.map ae:=List.take_of_length_le (by omega);have Hs:(b.map ae).length=16:=(by rw[List.length_map,hb]);have xdP:List.take 16 (b.map ae)=b.map ae:=List.take_of_length_le (by omega);have tG:(Aes.sb.map ae).length=256:=(by rw[List.length_map,Aes.sv]);have Ur:List.take 256 (Aes.sb.map ae)=Aes.sb.map ae:=List.take_of_length_le (by omega);have xau:=cq Aes.sb;have Si:((mN key).map ae).length=176:=(by rw[List.length_map,BT]);have xav:=cq (mN key);have xaw:=QK key hk;have hex:=fun s=>AH (Γ:=Γ) key hk s;have hbx:=fun s=>FF (Γ:=Γ) s;have had:=fun s=>uw (Γ:=Γ) b (Aes.kr key 0) hb (Aes.sw hk 0) s;rw[show Aes.add b (Aes.kr key 0)=Aes.state key b 0 from rfl] at had;have Ox:=fun q s=>zp (Γ:=Γ) (Aes.state key b q) (Aes.nB key b q) (q+1==10) s;have RC:=fun q s=>uw (Γ:=Γ) (Aes.IJ (Aes.state key b q) (q+1==10)) (Aes.kr key (q+1)) (Aes.Di _ _) (Aes.sw hk (q+1)) s;have gS:∀q,Aes.add (Aes.IJ (Aes.state key b q) (q+1==10)) (Aes.kr key (q+1))=Aes.state key b (q+1):=fun q=>rfl;simp only[gS] at RC;have N2:List.take 16 ((mN key).map ae)=(Aes.kr key 0).map ae:=by
  have:=xaw 0 (by omega);rwa [Nat.zero_mul,List.drop_zero] at this
 generalize Aes.sb.map ae=Y at *
 generalize (mN key).map ae=KS at *
 refine jQ fun K hK=>?_;intro o2 qQ o3 Au;obtain⟨qH,Av⟩:=AS.ff Au;intro o4 Db;obtain⟨QH,JZ,vn⟩:=lE Db;rw[Sf];refine hK _ _ ?_;clear hK K;generalize mu:((s.set o2 (key.map ae)).set o3 (b.map ae)).set o4 (List.replicate 16 (bV 0))=s0 at *
 have j2:s0.aw o2=some (key.map ae):=(by rw[←mu,AS.ao _ JZ.symm,AS.ao _ qH.symm,AS.af]);have j3:s0.aw o3=some (b.map ae):=(by rw[←mu,AS.ao _ QH.symm,AS.af]);have j4:s0.aw o4=some (List.replicate 16 (bV 0)):=(by rw[←mu];exact AS.af _ _ _);have hle:s.le s0:=(by rw[←mu];exact AS.aF (AS.aF (AS.aF (AS.le.refl s) qQ _) Av _) vn _);clear mu Au Db;have sQ:(List.replicate 16 (bV 0)).length=16:=(by simp);generalize List.replicate 16 (bV 0)=Z at *
 refine jQ fun K hK=>?_;refine ad (hbx _) ?_;rintro r s1 ⟨rfl,rfl⟩;simp only[↓DM,bE,DX,Nz,↓DN,Qa,Qb,Qc,Qd,Qe,Qf,Qg,Qh,reduceCtorEq,↓reduceIte,Na,Nb,Nc,Nk,Nf,Ng,Nh,Za,Zb,Zc,TT,Um,tG,xau,Nat.le_refl,List.length_replicate];intro o5 Fs;rw[bD (List.replicate 256 (bV 0)) Y (by rw[tG];simp)];refine hK _ _ ?_;clear hK K;have n52:o5≠o2:=(fun e=>by rw[e,j2] at Fs;cases Fs);have n53:o5≠o3:=(fun e=>by rw[e,j3] at Fs;cases Fs);have n54:o5≠o4:=(fun e=>by rw[e,j4] at Fs;cases Fs);have IW:s.aw o5=none:=by
  cases h:s.aw o5 with
  |none=>rfl
  |some cs=>rw[hle.aw _ _ h] at Fs;cases Fs
 generalize gV:s1.set o5 Y=s2 at *
 have q2:s2.aw o2=some (key.map ae):=(by rw[←gV,AS.ao _ n52.symm];exact j2);have q3:s2.aw o3=some (b.map ae):=(by rw[←gV,AS.ao _ n53.symm];exact j3);have q4:s2.aw o4=some Z:=(by rw[←gV,AS.ao _ n54.symm];exact j4);have q5:s2.aw o5=some Y:=(by rw[←gV];exact AS.af _ _ _);have eW:s.le s2:=(by rw[←gV];exact AS.aF hle IW _);clear gV j2 j3 j4 hle Fs;refine jS (Ai @q2 (Ai @q5 (Ai @uB (Ai @Up (Ai @tG (Ai @Ur @Nat.le_refl)))))) fun K hK=>?_;refine ad (hex _) ?_;rintro r s3 ⟨rfl,rfl⟩;simp only[↓DM,bE,DX,Nz,↓DN,Qa,Qb,Qc,Qd,Qe,Qf,Qg,Qh,reduceCtorEq,↓reduceIte,Na,Nb,Nc,Nk,Nf,Ng,Nh,Za,Zb,Zc,TT,z167,Si,xav,Nat.le_refl,List.length_replicate];intro o6 Ku;rw[bD (List.replicate 176 (bV 0)) KS (by rw[Si];simp)];refine hK _ _ ?_;clear hK K;have n63:o6≠o3:=(fun e=>by rw[e,q3] at Ku;cases Ku);have n64:o6≠o4:=(fun e=>by rw[e,q4] at Ku;cases Ku);have n65:o6≠o5:=(fun e=>by rw[e,q5] at Ku;cases Ku);have hs6:s.aw o6=none:=by
  cases h:s.aw o6 with
  |none=>rfl
  |some cs=>rw[eW.aw _ _ h] at Ku;cases Ku
 generalize gV:s3.set o6 KS=s4 at *
 have t3:s4.aw o3=some (b.map ae):=(by rw[←gV,AS.ao _ n63.symm];exact q3);have t4:s4.aw o4=some Z:=(by rw[←gV,AS.ao _ n64.symm];exact q4);have t5:s4.aw o5=some Y:=(by rw[←gV,AS.ao _ n65.symm];exact q5);have t6:s4.aw o6=some KS:=(by rw[←gV];exact AS.af _ _ _);have fM:s.le s4:=(by rw[←gV];exact AS.aF eW hs6 _);clear gV q2 q3 q4 q5 eW Ku;have hB0:=cq (Aes.state key b 0);have Us:((Aes.state key b 0).map ae).length=16:=(by rw[List.length_map,Aes.nB]);refine wS fun K hK=>?_;simp only[↓DN,Qa,Qb,Qc,Qd,Qe,Qf,Qg,Qh,reduceCtorEq,↓reduceIte,Na,Nb,Nc,Nk,Nf,Ng,Nh,Za,Zb,Zc,TT,t3,t6,Hs,xdP,Si,N2,show(0:Int)<((11:Nat):Int) from by decide];refine ad (had _) ?_;rintro r s5 ⟨rfl,rfl⟩;refine jN (Ai @hB0 (Ai @Us @Nat.le_refl)) ?_;intro o7 DI;rw[Sf,bD (List.replicate 16 (bV 0)) ((Aes.state key b 0).map ae) (by rw[Us];simp)];refine hK _ _ ?_;clear hK K;have n74:o7≠o4:=(fun e=>by rw[e,t4] at DI;cases DI);have Vc:o7≠o5:=(fun e=>by rw[e,t5] at DI;cases DI);have Vd:o7≠o6:=(fun e=>by rw[e,t6] at DI;cases DI);have Sj:s.aw o7=none:=by
  cases h:s.aw o7 with
  |none=>rfl
  |some cs=>rw[fM.aw _ _ h] at DI;cases DI
 generalize gV:s5.set o7 ((Aes.state key b 0).map ae)=s6 at *
 have j4:s6.aw o4=some Z:=(by rw[←gV,AS.ao _ n74.symm];exact t4);have j5:s6.aw o5=some Y:=(by rw[←gV,AS.ao _ Vc.symm];exact t5);have j6:s6.aw o6=some KS:=(by rw[←gV,AS.ao _ Vd.symm];exact t6);have j7:s6.aw o7=some ((Aes.state key b 0).map ae):=(by rw[←gV];exact AS.af _ _ _);have nA:s.le s6:=(by rw[←gV];exact AS.aF fM Sj _);clear gV t3 t4 t5 t6 fM DI hB0 Us;refine wK fun K hK=>?_;refine jA ?_;refine ag ?_;refine aD (fun E s2=>∃q:Nat,q≤10∧E 4=.ptr o4 0∧E 5=.ptr o5 0∧E 6=.ptr o6 0∧E 7=.ptr o7 0∧E 8=.v (.int .i64 ((q+1:Nat):Int))∧s2.aw o4=some Z∧s2.aw o5=some Y∧s2.aw o6=some KS∧s2.aw o7=some ((Aes.state key b q).map ae)∧s.le s2)
  (fun E _=>match E 8 with |.v (.int _ i)=>11-i.toNat|_=>0) ?_ ?_
 ·exact⟨0,by omega,rfl,rfl,rfl,rfl,rfl,j4,j5,j6,j7,nA⟩
 ·clear j4 j5 j6 j7 nA;rintro E1 s7 ⟨q,hq,e4,e5,e6,e7,e8,j4,j5,j6,j7,hle⟩ -
  refine wK fun K2 aU=>?_;by_cases LP:q<10
  ·refine jB (Ai @e8 (decide_eq_true (show((q+1:Nat):Int)≤10 by omega))) ?_;refine jE ?_;refine ab ?_;refine aU _ _ ?_;clear aU K2;refine wK fun K3 bq=>?_;refine ag ?_;have heq:(((q+1:Nat):Int)==10)=(q+1==10):=by
    by_cases h:q+1=10
    ·rw[h];rfl
    ·rw[show(q+1==10)=false by simpa using h];simp;omega
   have xdQ:=Ox q;have xdR:=RC q;have hKq:=xaw (q+1) (by omega);have hKd:16≤(List.drop ((q+1)*16) KS).length:=(by rw[List.length_drop,Si];omega);have TM:((Aes.state key b q).map ae).length=16:=(by rw[List.length_map,Aes.nB]);have xay:List.take 16 ((Aes.state key b q).map ae)=(Aes.state key b q).map ae:=List.take_of_length_le (by omega);have hNl:((Aes.state key b (q+1)).map ae).length=16:=(by rw[List.length_map,Aes.nB]);have xaz:=cq (Aes.state key b (q+1));generalize hN:(Aes.state key b (q+1)).map ae=NB at *
   generalize (Aes.state key b q).map ae=SB at *
   generalize (Aes.kr key (q+1)).map ae=KQ at *
   have m0:(0:Int)≤((q+1:Nat):Int):=(by omega);have m1:((q+1:Nat):Int)<((11:Nat):Int):=(by omega);refine cV T.mixed [(o7,SB),(o5,Y),(o6,KS)] [4,8] [0,1,7] [9] (by kernel_rfl) (by simp only[aH,aL,and_true];simp[AS.set,aB,j5,j6,j7]) ?_;intro K hK;simp only[↓bt,↓a8,dx,dt,aR,aV,aH,aL,List.any_cons,List.any_nil,List.contains_cons,List.contains_nil,Nat.reduceBEq,Bool.or_false,Bool.or_true,Bool.or_self,Bool.false_or,↓DN,Qa,Qb,Qc,Qd,Qe,Qf,Qg,Qh,reduceCtorEq,↓reduceIte,Na,Nb,Nc,Nk,Nf,Ng,Nh,Za,Zb,Zc,TT,e5,e6,e7,e8,heq,j5,j6,j7,m0,m1,tG,Ur,Si,hKq,hKd,TM,xay,Vc,Vc.symm,Vd,Vd.symm,n65,n65.symm,Nat.le_refl];refine ad (xdQ _) ?_;rintro r sa ⟨rfl,rfl⟩;simp only[↓cx,↓bW,bE,↓bt,↓a8,dx,dt,aR,aV,aH,aL,List.any_cons,List.any_nil,DX,Nat.reduceBEq,↓DN,Qa,Qb,Qc,Qd,Qe,Qf,Qg,Qh,reduceCtorEq,↓reduceIte,Na,Nb,Nc,Nk,Nf,Ng,Nh,Za,Zb,Zc,TT,e5,e6,e7,e8,heq,j5,j6,j7,m0,m1,tG,Ur,Si,hKq,hKd,TM,xay,Vc,Vc.symm,Vd,Vd.symm,n65,n65.symm,Nat.le_refl];refine ad (xdR _) ?_;rintro r sb ⟨rfl,rfl⟩;simp only[↓cx,↓bW,bE,↓bt,↓a8,dx,dt,aR,aV,aH,aL,List.any_cons,List.any_nil,DX,Nat.reduceBEq,↓DN,Qa,Qb,Qc,Qd,Qe,Qf,Qg,Qh,reduceCtorEq,↓reduceIte,Na,Nb,Nc,Nk,Nf,Ng,Nh,Za,Zb,Zc,TT,e7,j7,TM,hNl,xaz,Nat.le_refl];refine⟨⟨j5,j6⟩,?_⟩;rw[bD SB NB (by omega)];refine hK _ _ ?_;clear hK K;simp only[aq,aA,if_true,if_false];refine bq _ _ ?_;clear bq K3;refine jD (Ai @e8 (cS (q+1) (by omega))) ?_;refine⟨⟨q+1,by omega,e4,e5,e6,e7,rfl,by rw[AS.ao _ n74.symm];exact j4,by rw[AS.ao _ Vc.symm];exact j5,by rw[AS.ao _ Vd.symm];exact j6,by rw[hN];exact AS.af _ _ _,AS.aF hle Sj _⟩,?_⟩;simp only[e8,aB,↓reduceIte];omega
  ·obtain rfl:q=10:=(by omega);refine jB (Ai @e8 (decide_eq_false (show ¬((10+1:Nat):Int)≤10 by decide))) ?_;refine jF ?_;refine aC ?_;simp only[aA,aq,if_true];clear aU K2;refine hK _ _ ?_;clear hK K;rw[show Aes.state key b 10=Aes.block key b from rfl] at j7;have uX:((Aes.block key b).map ae).length=16:=(by rw[List.length_map,Aes.BN]);have bS:=cq (Aes.block key b);have eo:List.take 16 ((Aes.block key b).map ae)=(Aes.block key b).map ae:=List.take_of_length_le (by omega);generalize (Aes.block key b).map ae=X at *
   refine jS (Ai @e4 (Ai @e7 (Ai @j4 (Ai @j7 (Ai @uX (Ai @eo (Ai @bS (Ai @n74 (Ai @n74.symm @Nat.le_refl))))))))) fun K hK=>?_;rw[bD Z X (by omega)];refine⟨by omega,hK _ _ ?_⟩;clear hK K;refine a7 ?_;refine eQ (v:=.agg X) (o:=o4) (off:=0) e4 (AS.af _ _ _) (by rw[T.Lt];decide) (by simp only[↓DN,Qa,Qb,Qc,Qd,Qe,Qf,Qg,Qh,reduceCtorEq,↓reduceIte,Na,Nb,Nc,Nk,Nf,Ng,Nh,Za,Zb,Zc,TT,uX,eo]) ?_;exact⟨_,s,AV.aE.refl _,AS.aF hle vn _,rfl,rfl⟩
abbrev nV(n:Nat):AV:=.v (.int .i64 (n:Int))
def xjA(s:AS)(cs:List AV)(r:AV)(s':AS):Prop:=
  s.le s'∧((cs=[]∧r=.v (.slice none 0 0))∨∃t e,s.own t=none∧s'.own t=some e∧r=.sl 1 cs.length cs (.own t e))
theorem xaA:∀x:AV,List.replicate 4 x=[x,x,x,x]:=fun _=>rfl
def mm(x:UInt8)(j:Nat):UInt8:=if j=0 then Aes.Od x else if j=1 then Aes.Od x ^^^ x else x
def acc(c:Nat→UInt8)(row:Nat):Nat→UInt8
  |0=>0
  |k+1=>acc c row k ^^^ mm (c k) ((k+4-row)%4)
end Go.Proofs.YtbiefppedlodiaaGreatDoor
namespace Go.AM
def PP:Nat:=2305843009213693951
theorem NC(n:Nat):n &&& 2305843009213693951=n%2305843009213693952:=by
  have:=Nat.and_two_pow_sub_one_eq_mod n 61;simpa using this
def Dq(n:Int):Int:=
  let m:=dQ .u64 (mr .u64 n 2305843009213693951) (eU .u64 n 61)
  if m≥2305843009213693951 then dr .u64 m 2305843009213693951 else m
theorem ND(n:Nat)(h:n<2^64):dQ .u64 (mr .u64 (n:Int) 2305843009213693951) (eU .u64 (n:Int) 61)=((n%2305843009213693952+n/2305843009213693952:Nat):Int):=by
  have e1:mr .u64 (n:Int) 2305843009213693951=((n &&& 2305843009213693951:Nat):Int):=rM (k:=.u64) rfl n 2305843009213693951 h (by decide);have e2:eU .u64 (n:Int) 61=((n/2^61:Nat):Int):=by
    have:=ir (k:=.u64) n 61;simpa[IntKind.bits] using this
  rw[e1,e2,uG rfl,NC,show IntKind.u64.bits=64 from rfl];exact congrArg (fun x:Nat=>(x:Int)) (by omega)
theorem HG(n:Nat)(h:n<2^64):Dq n=((n%PP:Nat):Int):=by
  unfold Dq PP;rw[ND n h];simp only;split
  · rename_i hc;have QT:2305843009213693951≤n%2305843009213693952+n/2305843009213693952:=(by omega);have:=A1 (k:=.u64) rfl (n%2305843009213693952+n/2305843009213693952) 2305843009213693951 QT (by simp only[IntKind.bits];omega);rw[show(2305843009213693951:Int)=((2305843009213693951:Nat):Int) from rfl,this];exact congrArg (fun x:Nat=>(x:Int)) (by omega)
  · rename_i hc;exact congrArg (fun x:Nat=>(x:Int)) (by omega)
theorem NF(x1 x0 y1 y0:Nat)(h1:x1<4294967296)(h2:x0<4294967296)(h3:y1<4294967296)(h4:y0<4294967296):
    x1*y1+(x1*y0+x0*y0/4294967296)/4294967296+((x1*y0+x0*y0/4294967296)%4294967296+x0*y1)/4294967296=(x1*4294967296+x0)*(y1*4294967296+y0)/18446744073709551616:=by
  have e:(x1*4294967296+x0)*(y1*4294967296+y0)=x1*y1*18446744073709551616+(x1*y0+x0*y1)*4294967296+x0*y0:=by
    simp only[Nat.add_mul,Nat.mul_add];have a1:x1*4294967296*(y1*4294967296)=x1*y1*18446744073709551616:=by
      rw[Nat.mul_mul_mul_comm]
    have a2:x0*(y1*4294967296)=x0*y1*4294967296:=(by rw[Nat.mul_assoc]);have a3:x1*4294967296*y0=x1*y0*4294967296:=(by rw[Nat.mul_right_comm]);omega
  rw[e];generalize x1*y1=A;generalize x1*y0=B;generalize x0*y1=C;generalize x0*y0=D;omega
theorem ux{a b:Nat}(ha:a<4294967296)(hb:b<4294967296):a*b≤18446744065119617025:=by
  have :a*b≤4294967295*4294967295:=Nat.mul_le_mul (by omega) (by omega);omega
theorem Ut(n:Nat):n &&& 4294967295=n%4294967296:=by
  have:=Nat.and_two_pow_sub_one_eq_mod n 32;simpa using this
theorem vy(n:Nat)(h:n<2^64):mr .u64 (n:Int) 4294967295=((n%4294967296:Nat):Int):=by
  have:=rM (k:=.u64) rfl n 4294967295 h (by decide);rw[Ut] at this;exact this
theorem nD(n:Nat):eU .u64 (n:Int) 32=((n/4294967296:Nat):Int):=by
  have:=ir (k:=.u64) n 32;simpa[IntKind.bits] using this
theorem oB(a b:Nat)(h:a+b<2^64):dQ .u64 (a:Int) b=((a+b:Nat):Int):=by
  rw[uG rfl];simp only[IntKind.bits];rw[Nat.mod_eq_of_lt h]
theorem xp(a b:Nat)(h:a*b<2^64):ia .u64 (a:Int) b=((a*b:Nat):Int):=by
  rw[Cd rfl];simp only[IntKind.bits];rw[Nat.mod_eq_of_lt h]
theorem NG(a b:Nat):ia .u64 (a:Int) b=((a*b%18446744073709551616:Nat):Int):=by
  rw[Cd rfl];rfl
theorem QL(q:Nat)(h:q<2^122):dQ .u64 (mr .u64 ((q%18446744073709551616:Nat):Int) 2305843009213693951) (F6 .u64 (kC .u64 ((q/18446744073709551616:Nat):Int) 3) (eU .u64 ((q%18446744073709551616:Nat):Int) 61))=
    ((q%2305843009213693952+q/2305843009213693952:Nat):Int):=by
  have e1:=rM (k:=.u64) rfl (q%18446744073709551616) 2305843009213693951 (by simp only[IntKind.bits];omega) (by decide);have e2:eU .u64 ((q%18446744073709551616:Nat):Int) 61=((q%18446744073709551616/2305843009213693952:Nat):Int):=by
    have:=ir (k:=.u64) (q%18446744073709551616) 61;simpa[IntKind.bits] using this
  have e3:kC .u64 ((q/18446744073709551616:Nat):Int) 3=((8*(q/18446744073709551616):Nat):Int):=by
    have:=rN (k:=.u64) rfl (q/18446744073709551616) 3;rw[show(3:Int)=((3:Nat):Int) from rfl,this,show min 3 IntKind.u64.bits=3 from rfl,show IntKind.u64.bits=64 from rfl];exact congrArg (fun x:Nat=>(x:Int)) (by omega)
  rw[e2,e3,show(2305843009213693951:Int)=((2305843009213693951:Nat):Int) from rfl,e1,NC,A2 rfl _ _ (by simp only[IntKind.bits];omega) (by simp only[IntKind.bits];omega)];have e4:8*(q/18446744073709551616) ||| q%18446744073709551616/2305843009213693952=8*(q/18446744073709551616)+q%18446744073709551616/2305843009213693952:=by
    have:=Nat.two_pow_add_eq_or_of_lt (i:=3) (b:=q%18446744073709551616/2305843009213693952) (by omega) (q/18446744073709551616);simpa using this.symm
  rw[e4,uG rfl,show IntKind.u64.bits=64 from rfl];exact congrArg (fun x:Nat=>(x:Int)) (by omega)
theorem IX:PP<2^61:=by decide
theorem de(n:Nat):n%PP<PP:=Nat.mod_lt _ (by decide)
theorem NH(a b:Nat):(a%PP)*(b%PP)<2^122:=by
  have h1:=de a;have h2:=de b;have h3:=IX;calc (a%PP)*(b%PP)<2^61*2^61:=Nat.mul_lt_mul'' (by omega) (by omega)
    _=2^122:=by decide
theorem Kd(q:Nat):(q%2305843009213693952+q/2305843009213693952)%PP=q%PP:=by unfold PP;omega
end Go.AM
namespace Go.Proofs.YtbiefppedlodiaaGreatDoor
open Go Go.AM Go.Proofs Tryz
variable{Γ:Nat→List AV}
theorem FG(ax:List UInt8)(h:ax.length=16):Aes.first ax<4294967296:=by
  have key:∀(l:List UInt8)(x:Nat),l.foldl (fun x b=>x*256+b.toNat) x<(x+1)*256^l.length:=by
    intro l;induction l with
    |nil=>intro x;simp
    |cons b l ih=>
      intro x;rw[List.foldl_cons];have h1:=ih (x*256+b.toNat);have hb:=b.toNat_lt;have h2:(x*256+b.toNat+1)*256^l.length≤((x+1)*256)*256^l.length:=Nat.mul_le_mul_right _ (by omega);rw[List.length_cons,Nat.pow_succ,Nat.mul_comm (256^l.length),←Nat.mul_assoc];omega
  have:=key (ax.drop 12) 0;rw[List.length_drop,h] at this;exact this
theorem QM(ax:List UInt8)(h:ax.length=16)(i:Nat):(Aes.FA ax i).length=16:=by simp[Aes.FA,h]
theorem Uu(key ax beside masked:List UInt8):Aes.tag key ax beside masked=(Mac.tag (key.drop 16) (be 4 beside.length++(beside++(ax++masked)))).take 16:=rfl
def iU(key ax beside z:List UInt8):List UInt8:=if z.length<16 then[] else if Aes.tag key ax beside (z.take (z.length-16))=z.drop (z.length-16) then Aes.mask key ax (z.take (z.length-16)) else[]
def iV(key ax beside z:List UInt8):Nat:=if z.length<16 then 10 else if Aes.tag key ax beside (z.take (z.length-16))=z.drop (z.length-16) then 0 else 14
theorem HI(l:List UInt8)(s:AS)(h0:l.length≠0)(hl:l.length≤2^45):aj prog Γ 90 [al l .no] s (fun r s'=>∃o cap,s.aw o=none∧r=.ig o 0 1 l.length cap∧s'=s.set o (l.map ae)):=by
 refine aa func90 rfl ntmps90 results90 (by simp) ?_;unfold al;refine jA ?_;refine wK fun K hK=>?_;refine jB @and_false ?_;refine jF ?_;refine ab ?_;refine hK _ _ ?_;clear hK K;refine zS (x:=.tmp 5) (y:=.tmp 6) (T:=23) (xT:=23) (e:=5) (z:=[.v (.int .u8 0)]) (d:=7) rfl rfl rfl (by decide) underlying23 (by simp only[↓DN,Qa,Qb,Qc,Qd,Qe,Qf,Qg,Qh,reduceCtorEq,↓reduceIte,Na,Nb,Nc,Nk,Nf,Ng,Nh,Za,Zb,Zc,TT];try rfl) (by simp only[↓DN,Qa,Qb,Qc,Qd,Qe,Qf,Qg,Qh,reduceCtorEq,↓reduceIte,Na,Nb,Nc,Nk,Nf,Ng,Nh,Za,Zb,Zc,TT];try rfl) (by rw[T.c5];decide) (by rw[T.c5];rfl) ?_;simp only[↓DN,Qa,Qb,Qc,Qd,Qe,Qf,Qg,Qh,reduceCtorEq,↓reduceIte,Na,Nb,Nc,Nk,Nf,Ng,Nh,Za,Zb,Zc,TT,im];refine⟨_,_,rfl,h0,by omega,by omega,?_⟩;intro ob cap qK gB;refine jI ?_;refine⟨_,_,AV.aE.refl _,AS.le.refl _,ob,cap,qK,rfl,?_⟩;try rfl
theorem AJ(l:List UInt8)(s:AS)(h0:l.length≠0)(hl:l.length≤2^45):aj prog Γ 90 [al l .any] s (fun r s'=>∃o cap,s.aw o=none∧r=.ig o 0 1 l.length cap∧s'=s.set o (l.map ae)):=
 aj.any (pre:=[]) (post:=[]) (fun e=>absurd (by rw[e];rfl) h0) (HI l s h0 hl)
theorem sB(F G:Nat→UInt8)(N i:Nat)(h:N≤i):ba F G N i=ba F G N N:=by
 unfold ba;apply List.map_congr_left;intro n hn;have:=List.mem_range.1 hn;rw[if_pos (by omega),if_pos this]
theorem xdS(l:List UInt8)(h:l.length=4):(jn 4 (l,0)).1=gX l:=by
 have e:List.take 4 l=l:=List.take_of_length_le (by omega);simp[jn,ee,h,e]
theorem QN(i:Nat)(h:i<2^40):ia .i64 16 (i:Int)=((16*i:Nat):Int):=by
 rw[dJ (by omega)];omega
theorem set_tail(ax tl ys:List UInt8)(hn:ax.length=16)(ht:tl.length=4)(hy:ys.length=4):bp ((ax.take 12++tl).map ae) 12 (ys.map ae)=(ax.take 12++ys).map ae:=by
 have h1:(ax.take 12).length=12:=(by simp[hn]);generalize ax.take 12=a at *
 rw[sq _ _ _ (by rw[List.length_map,List.length_map,List.length_append];omega),List.map_append,List.map_append,List.take_append_of_le_length (by rw[List.length_map];omega),List.take_of_length_le (by rw[List.length_map];omega),List.drop_eq_nil_of_le (by rw[List.length_append,List.length_map,List.length_map,List.length_map];omega),List.append_nil]
theorem wZ(key ax text:List UInt8)(hk:key.length=48)(hn:ax.length=16)(h0:text.length≠0)(ht:text.length≤2^30)(s:AS):
  aj prog Γ 189 [al key .any,al ax .any,al text .any] s (fun r s'=>r=al (Aes.mask key ax text) .any∧s'=s):=by
 refine pJ func189 rfl ntmps189 results189 (by simp) ?_;have Nx:(key.take 16).length=16:=(by simp[hk]);have NJ:(List.take 16 (key.map ae)).length=16:=(by simp[hk]);have NK:(List.take 16 (key.map ae)).all AV.one=true:=(by rw[←List.map_take];exact cq _);have Bn:(ax.map ae).length=16:=(by rw[List.length_map,hn]);have Td:=cq ax;have NL:List.take 16 (ax.map ae)=ax.map ae:=List.take_of_length_le (by omega);have oZ:=FG ax hn;unfold al;rw[hk,hn];refine cf ?_;intro K1 fQ;refine jC ?_;simp only[aA];refine fQ _ _ ?_;clear fQ K1;refine cf ?_;intro K1 fQ;refine jT fun K hK=>?_;intro o7 DI o8 HF;obtain⟨Uv,Ke⟩:=AS.ff HF;rw[Sf];refine hK _ _ ?_;clear hK K;simp only[aA];refine fQ _ _ ?_;clear fQ K1;generalize mu:(s.set o7 (List.replicate 16 (bV 0))).set o8 (List.replicate 16 (bV 0))=s0 at *
 have j7:s0.aw o7=some (List.replicate 16 (bV 0)):=(by rw[←mu,AS.ao _ Uv.symm,AS.af]);have j8:s0.aw o8=some (List.replicate 16 (bV 0)):=(by rw[←mu];exact AS.af _ _ _);have hle:s.le s0:=(by rw[←mu];exact AS.aF (AS.aF (AS.le.refl s) DI _) Ke _);clear mu HF;have sQ:(List.replicate 16 (bV 0)).length=16:=(by simp);generalize hZ:List.replicate 16 (bV 0)=Z at *
 refine cf ?_;intro K1 fQ;refine jU (Ai @j7 (Ai @sQ (Ai @NJ (Ai @NK (Ai (show(0:Int)≤((16:Nat):Int) from by decide) (Ai (show((16:Nat):Int)≤((16:Nat):Int) from by decide) (Ai (show ¬(((16:Nat):Int)=0) from by decide) (show min 48 16=16 from rfl)))))))) fun K hK=>?_;rw[bD Z ((key.take 16).map ae) (by rw[sQ,List.length_map,Nx])];refine hK _ _ ?_;clear hK K;simp only[aA];refine fQ _ _ ?_;clear fQ K1;generalize gV:s0.set o7 ((key.take 16).map ae)=s1 at *
 have q7:s1.aw o7=some ((key.take 16).map ae):=(by rw[←gV];exact AS.af _ _ _);have q8:s1.aw o8=some Z:=(by rw[←gV,AS.ao _ Uv];exact j8);have mw:s.le s1:=(by rw[←gV];exact AS.aF hle DI _);clear gV j7 j8 hle;refine cf ?_;intro K1 fQ;refine jU (Ai @q8 (Ai @sQ (Ai @Bn (Ai @Td (Ai @NL (Ai (show(0:Int)≤((16:Nat):Int) from by decide) (Ai (show((16:Nat):Int)≤((16:Nat):Int) from by decide) (Ai (show ¬(((16:Nat):Int)=0) from by decide) (Ai (show min 48 16=16 from rfl) (show min 16 16=16 from rfl)))))))))) fun K hK=>?_;rw[bD Z (ax.map ae) (by rw[sQ,Bn])];refine hK _ _ ?_;clear hK K;simp only[aA];refine fQ _ _ ?_;clear fQ K1;generalize nU:s1.set o8 (ax.map ae)=s2 at *
 have j7:s2.aw o7=some ((key.take 16).map ae):=(by rw[←nU,AS.ao _ Uv.symm];exact q7);have j8:s2.aw o8=some (ax.map ae):=(by rw[←nU];exact AS.af _ _ _);have eW:s.le s2:=(by rw[←nU];exact AS.aF mw Ke _);clear nU q7 q8 mw;have NM:(ax.drop 12).length=4:=(by simp[hn]);have ib:=fun s=>sg (Γ:=Γ) (ax.drop 12) s (by omega);unfold al at ib;rw[NM] at ib;refine cf ?_;intro K1 fQ;refine wE fun K hK=>?_;simp only[↓DN,Qa,Qb,Qc,Qd,Qe,Qf,Qg,Qh,reduceCtorEq,↓reduceIte,Na,Nb,Nc,Nk,Nf,Ng,Nh,Za,Zb,Zc,TT,NL,hn,show(0:Int)≤12 from by decide,show(12:Int)≤((16:Nat):Int) from by decide,show((16:Nat):Int)≤((16:Nat):Int) from by decide];refine ad (ib _) ?_;rintro r s3 ⟨p,rfl,hp⟩;refine jR hK ?_;clear hK K;simp only[aA];refine fQ _ _ ?_;clear fQ K1;refine cf ?_;intro K1 fQ;refine jT fun K hK=>?_;refine ad (uc s2 s3 p _ hp) ?_;rintro r s4 ⟨rfl,F0⟩;rw[xdS _ NM,show gX (ax.drop 12)=Aes.first ax from rfl];have hcv:cE .u32 ((Aes.first ax:Nat):Int)=((Aes.first ax:Nat):Int):=by
  rw[gN rfl];simp only[IntKind.bits];rw[Nat.mod_eq_of_lt (by omega)]
 refine jV @hcv hK ?_;clear hK K;have q7:=F0.le.aw _ _ j7;have q8:=F0.le.aw _ _ j8;have fM:s.le s4:=AS.le.trans eW F0.le;clear hp F0 j7 j8 eW ib hcv;simp only[aA];refine fQ _ _ ?_;clear fQ K1;refine cf ?_;intro K1 fQ;refine jT fun K hK=>?_;refine ad (AJ text s4 h0 (by omega)) ?_;rintro r s5 ⟨sx,cap,HJ,rfl,rfl⟩;refine jR hK ?_;clear hK K;simp only[aA];refine fQ _ _ ?_;clear fQ K1;have n117:sx≠o7:=(fun e=>by rw[e,q7] at HJ;cases HJ);have n118:sx≠o8:=(fun e=>by rw[e,q8] at HJ;cases HJ);have Uw:s.aw sx=none:=by
  cases h:s.aw sx with
  |none=>rfl
  |some cs=>rw[fM.aw _ _ h] at HJ;cases HJ
 have Sk:ba (fun n=>(Aes.mask key ax text).getD n 0) (fun n=>text.getD n 0) text.length 0=text.map ae:=(by rw[sy,mn rfl]);rw[←Sk];generalize IW:s4.set sx (ba (fun n=>(Aes.mask key ax text).getD n 0) (fun n=>text.getD n 0) text.length 0)=s5 at *
 have j7:s5.aw o7=some ((key.take 16).map ae):=(by rw[←IW,AS.ao _ n117.symm];exact q7);have j8:s5.aw o8=some ((ax.take 12++ax.drop 12).map ae):=(by rw[←IW,AS.ao _ n118.symm,List.take_append_drop];exact q8);have HK:s5.aw sx=some (ba (fun n=>(Aes.mask key ax text).getD n 0) (fun n=>text.getD n 0) text.length 0):=(by rw[←IW];exact AS.af _ _ _);have fY:s.le s5:=(by rw[←IW];exact AS.aF fM Uw _);clear IW q7 q8 fM HJ Sk;have c1:dQ .i64 (text.length:Int) 16=((text.length+16:Nat):Int):=gg text.length 16 (by omega);have c2:dr .i64 ((text.length+16:Nat):Int) 1=((text.length+15:Nat):Int):=gP (text.length+16) 1 (by omega) (by omega);have c3:kX .i64 ((text.length+15:Nat):Int) 16=(((text.length+15)/16:Nat):Int):=by
  have :kX .i64 ((text.length+15:Nat):Int) ((16:Nat):Int)=(((text.length+15)/16:Nat):Int):=by
   rw[kX];have e:Int.tdiv ((text.length+15:Nat):Int) ((16:Nat):Int)=(((text.length+15)/16:Nat):Int):=(Int.ofNat_tdiv _ 16).symm;rw[e,IntWalk.i64_in _ (by omega)]
  exact this
 have hcn:16*((text.length+15)/16)≥text.length:=(by omega);have xjB:16*((text.length+15)/16)<text.length+16:=(by omega);generalize (text.length+15)/16=Sl at *
 refine cf ?_;intro K1 fQ;refine jB (Ai @c1 (Ai @c2 (Ai @c3 @sA))) ?_;clear c1 c2 c3;refine ag ?_;refine aD (fun E s6=>∃(j:Nat)(tl:List UInt8),j≤Sl∧tl.length=4∧E 7=.ptr o7 0∧E 8=.ptr o8 0∧E 10=.v (.int .u32 (Aes.first ax:Nat))∧E 11=.ig sx 0 1 text.length cap∧E 36=nV Sl∧E 37=nV j∧s6.aw o7=some ((key.take 16).map ae)∧s6.aw o8=some ((ax.take 12++tl).map ae)∧s6.aw sx=some (ba (fun n=>(Aes.mask key ax text).getD n 0) (fun n=>text.getD n 0) text.length (16*j))∧s.le s6)
  (fun E _=>match E 37 with |.v (.int _ i)=>Sl-i.toNat|_=>0) ?_ ?_
 ·exact⟨0,ax.drop 12,by omega,NM,rfl,rfl,rfl,rfl,rfl,rfl,j7,j8,HK,fY⟩
 ·clear j7 j8 HK fY;rintro E1 s6 ⟨j,tl,hj,kq,e7,e8,U1,wM,e36,Ux,j7,j8,HK,nA⟩ -
  by_cases kg:j<Sl
  ·refine jB (Ai @e36 (Ai @Ux (decide_eq_true (show(j:Int)<(Sl:Int) by omega)))) ?_;refine wK fun K2 aU=>?_;refine jE ?_;refine ab ?_;refine aU _ _ ?_;clear aU K2;refine wK fun K3 bq=>?_;refine ag ?_;refine jB @Ux ?_;have w1:cE .u32 ((j:Nat):Int)=((j:Nat):Int):=by
    rw[gN rfl];simp only[IntKind.bits];rw[Nat.mod_eq_of_lt (by omega)]
   have w2:=uh (Aes.first ax) j;rw[show Sha.ew (Aes.first ax) j=(Aes.first ax+j)%4294967296 from rfl] at w2;refine jB (Ai @U1 (Ai @w1 @w2)) ?_;have Uy:(ax.take 12++be 4 ((Aes.first ax+j)%4294967296))=Aes.FA ax j:=rfl;have N4:(be 4 ((Aes.first ax+j)%4294967296)).map ae=[bV (UInt8.ofNat ((Aes.first ax+j)%4294967296/16777216)),bV (UInt8.ofNat ((Aes.first ax+j)%4294967296/65536)),bV (UInt8.ofNat ((Aes.first ax+j)%4294967296/256)),bV (UInt8.ofNat ((Aes.first ax+j)%4294967296))]:=(by simp[be,ae]);have cz:=set_tail ax tl (be 4 ((Aes.first ax+j)%4294967296)) hn kq (by simp);rw[Uy,N4] at cz;have P9:((ax.take 12++tl).map ae).length=16:=(by simp[hn,kq]);have Lo:=vm ((Aes.first ax+j)%4294967296) 24 (by decide);have Iv:=vm ((Aes.first ax+j)%4294967296) 16 (by decide);have s8':=vm ((Aes.first ax+j)%4294967296) 8 (by decide);generalize (Aes.first ax+j)%4294967296=w at *
   generalize hO:(ax.take 12++tl).map ae=O at *
   refine jS (Ai @e8 (Ai @j8 (Ai @Lo (Ai @Iv (Ai @s8' (Ai (show eU .u32 (w:Int) 24=((w/2^24:Nat):Int) from Lo) (Ai (show eU .u32 (w:Int) 16=((w/2^16:Nat):Int) from Iv) (Ai (show eU .u32 (w:Int) 8=((w/2^8:Nat):Int) from s8') (Ai @Nr (Ai @xaA (Ai @cz (Ai @P9 (Ai (show(12:Int)≤((16:Nat):Int) from by decide) (Ai (show((16:Nat):Int)≤((16:Nat):Int) from by decide) (Ai (show ¬(((16:Nat):Int)=12) from by decide) (show min 4 4=4 from rfl)))))))))))))))) fun K hK=>?_;first
    |refine hK _ _ ?_
    |refine⟨by omega,hK _ _ ?_⟩
   clear hK K;generalize Sj:s6.set o8 ((Aes.FA ax j).map ae)=s7 at *
   have q7:s7.aw o7=some ((key.take 16).map ae):=(by rw[←Sj,AS.ao _ Uv.symm];exact j7);have q8:s7.aw o8=some ((Aes.FA ax j).map ae):=(by rw[←Sj];exact AS.af _ _ _);have Oe:s7.aw sx=some (ba (fun n=>(Aes.mask key ax text).getD n 0) (fun n=>text.getD n 0) text.length (16*j)):=(by rw[←Sj,AS.ao _ n118];exact HK);have ss:s.le s7:=(by rw[←Sj];exact AS.aF nA Ke _);clear Sj j7 j8 HK nA cz N4 P9;have gw:=QM ax hn j;have P0:=fun s=>zr (Γ:=Γ) (key.take 16) (Aes.FA ax j) Nx gw s;have Hs:=Aes.BN (key.take 16) (Aes.FA ax j);have Si:((key.take 16).map ae).length=16:=(by rw[List.length_map,Nx]);have hKt:List.take 16 ((key.take 16).map ae)=(key.take 16).map ae:=List.take_of_length_le (by omega);have hCl:((Aes.FA ax j).map ae).length=16:=(by rw[List.length_map,gw]);have hCt:List.take 16 ((Aes.FA ax j).map ae)=(Aes.FA ax j).map ae:=List.take_of_length_le (by omega);have UG:=cq (Aes.block (key.take 16) (Aes.FA ax j));have QO:((Aes.block (key.take 16) (Aes.FA ax j)).map ae).length=16:=(by rw[List.length_map,Hs]);have hBt:List.take 16 ((Aes.block (key.take 16) (Aes.FA ax j)).map ae)=(Aes.block (key.take 16) (Aes.FA ax j)).map ae:=List.take_of_length_le (by omega);have hmB:∀k,k<16→Aes.IL key ax (16*j+k)=(Aes.block (key.take 16) (Aes.FA ax j)).getD k 0:=by
    intro k hk;rw[Aes.IL,show(16*j+k)/16=j by omega,show(16*j+k)%16=k by omega]
   have YJ:(be 4 w).length=4:=(by simp);rw[←Uy] at q8;generalize hBK:Aes.block (key.take 16) (Aes.FA ax j)=bk at *
   rw[←Uy] at hCl hCt P0;generalize hKK:(key.take 16).map ae=KK at *
   generalize hCC:(ax.take 12++be 4 w).map ae=CC at *
   refine jS (Ai @e7 (Ai @e8 (Ai @q7 (Ai @q8 (Ai @Si (Ai @hKt (Ai @hCl (Ai @hCt @Nat.le_refl)))))))) fun K hK=>?_;refine ad (P0 _) ?_;rintro r s8 ⟨rfl,rfl⟩;refine jN (Ai @QO (Ai @UG @Nat.le_refl)) ?_;intro BO Dr;rw[Sf,bD (List.replicate 16 (bV 0)) (bk.map ae) (by rw[QO];simp)];refine hK _ _ ?_;clear hK K;have n147:BO≠o7:=(fun e=>by rw[e,q7] at Dr;cases Dr);have n148:BO≠o8:=(fun e=>by rw[e,q8] at Dr;cases Dr);have M0:BO≠sx:=(fun e=>by rw[e,Oe] at Dr;cases Dr);have xdT:s.aw BO=none:=by
    cases h:s.aw BO with
    |none=>rfl
    |some cs=>rw[ss.aw _ _ h] at Dr;cases Dr
   generalize Og:s8.set BO (bk.map ae)=s9 at *
   have j7:s9.aw o7=some KK:=(by rw[←Og,AS.ao _ n147.symm];exact q7);have j8:s9.aw o8=some CC:=(by rw[←Og,AS.ao _ n148.symm];exact q8);have HK:s9.aw sx=some (ba (fun n=>(Aes.mask key ax text).getD n 0) (fun n=>text.getD n 0) text.length (16*j)):=(by rw[←Og,AS.ao _ M0.symm];exact Oe);have j14:s9.aw BO=some (bk.map ae):=(by rw[←Og];exact AS.af _ _ _);have Kf:s.le s9:=(by rw[←Og];exact AS.aF ss xdT _);clear Og q7 q8 Oe ss Dr P0 UG;refine jB (Ai @j14 (Ai @QO (Ai @hBt @Nat.le_refl))) ?_;refine ag ?_;refine aD (fun E Pf=>∃k:Nat,k≤16∧E 7=.ptr o7 0∧E 8=.ptr o8 0∧E 10=.v (.int .u32 (Aes.first ax:Nat))∧E 11=.ig sx 0 1 text.length cap∧E 12=nV j∧E 36=nV Sl∧E 37=nV j∧E 61=.agg (bk.map ae)∧E 62=nV k∧Pf.aw o7=some KK∧Pf.aw o8=some CC∧Pf.aw sx=some (ba (fun n=>(Aes.mask key ax text).getD n 0) (fun n=>text.getD n 0) text.length (16*j+k))∧s.le Pf)
    (fun E _=>match E 62 with |.v (.int _ i)=>16-i.toNat|_=>0) ?_ ?_
   ·exact⟨0,by omega,e7,e8,U1,wM,rfl,e36,Ux,rfl,rfl,j7,j8,HK,Kf⟩
   ·clear j7 j8 HK j14 Kf;rintro E2 Pf ⟨k,tF,g7,g8,g10,g11,g12,RH,N6,Tn,LX,j7,j8,HK,Kf⟩ -
    by_cases SI:k<16
    ·refine jB (Ai @LX (decide_eq_true (show(k:Int)<16 by omega))) ?_;refine wK fun K5 ju=>?_;refine jE ?_;refine ab ?_;refine ju _ _ ?_;clear ju K5;refine wK fun K6 kU=>?_;refine ag ?_;have hbi:(bk.map ae)[k]? =some (ae (bk.getD k 0)):=(by simp[List.getElem?_eq_getElem (show k<bk.length by omega)]);have UJ:=dv (l:=bk) k (by omega);have Gw:=hmB k SI;have m1:(0:Int)≤(k:Int):=(by omega);have m2:(k:Int)<((16:Nat):Int):=(by omega);have a0:=QN j (by omega);have a1:=gg (16*j) k (by omega);have tq:∀(E3:Env)(Pg:AS),E3 7=.ptr o7 0→E3 8=.ptr o8 0→E3 10=.v (.int .u32 (Aes.first ax:Nat))→E3 11=.ig sx 0 1 text.length cap→E3 12=nV j→E3 36=nV Sl→E3 37=nV j→E3 61=.agg (bk.map ae)→E3 62=nV k→
       Pg.aw o7=some KK→Pg.aw o8=some CC→Pg.aw sx=some (ba (fun n=>(Aes.mask key ax text).getD n 0) (fun n=>text.getD n 0) text.length (16*j+k+1))→s.le Pg→K6 E3 Pg:=by
      intro E3 Pg f7 f8 f10 f11 f12 f36 f37 f61 f62 t7 t8 t11 xaC;refine kU _ _ ?_;clear kU K6;refine jD (Ai @f62 (cS k (by omega))) ?_;refine⟨⟨k+1,by omega,f7,f8,f10,f11,f12,f36,f37,f61,rfl,t7,t8,by rw[show 16*j+(k+1)=16*j+k+1 from rfl];exact t11,xaC⟩,?_⟩;simp only[LX,aB,↓reduceIte];omega
     clear kU;refine wS fun K hK=>?_;simp only[↓DN,Qa,Qb,Qc,Qd,Qe,Qf,Qg,Qh,reduceCtorEq,↓reduceIte,Na,Nb,Nc,Nk,Nf,Ng,Nh,Za,Zb,Zc,TT,Tn,LX,m1,m2,hbi,UJ,QO,ae];refine hK _ _ ?_;clear hK K;refine jB (Ai @g12 (Ai @a0 @a1)) ?_;by_cases rm:16*j+k<text.length
     ·have cz:=dZ (fun n=>(Aes.mask key ax text).getD n 0) (fun n=>text.getD n 0) text.length (16*j+k) _ rfl;have NZ:=oz (fun n=>(Aes.mask key ax text).getD n 0) (fun n=>text.getD n 0) text.length (16*j+k) (16*j+k) rm;rw[if_neg (Nat.lt_irrefl _)] at NZ;rw[Aes.zg key ax text (16*j+k) rm,Gw] at cz;have hlen:=dq (fun n=>(Aes.mask key ax text).getD n 0) (fun n=>text.getD n 0) text.length (16*j+k);generalize HD:ba (fun n=>(Aes.mask key ax text).getD n 0) (fun n=>text.getD n 0) text.length (16*j+k+1)=R' at *
      generalize ba (fun n=>(Aes.mask key ax text).getD n 0) (fun n=>text.getD n 0) text.length (16*j+k)=R at *
      generalize text.getD (16*j+k) 0=x at *
      generalize bk.getD k 0=y at *
      have m3:(0:Int)≤((16*j+k:Nat):Int):=(by omega);have m4:((16*j+k:Nat):Int)<(text.length:Int):=(by omega);have m5:16*j+k+1≤text.length:=(by omega);refine jB (Ai @g11 (decide_eq_true m4)) ?_;refine jE ?_;refine wE fun K hK=>?_;simp only[↓DN,Qa,Qb,Qc,Qd,Qe,Qf,Qg,Qh,reduceCtorEq,↓reduceIte,Na,Nb,Nc,Nk,Nf,Ng,Nh,Za,Zb,Zc,TT,g11,m3,m4,m5,rm,HK,NZ,ae,oV,cz,hlen];refine hK _ _ ?_;clear hK K;simp only[aq,aA,if_true,if_false];exact tq _ _ g7 g8 g10 g11 g12 RH N6 Tn LX (by rw[AS.ao _ n117.symm];exact j7) (by rw[AS.ao _ n118.symm];exact j8) (AS.af _ _ _) (AS.aF Kf Uw _)
     ·refine jB (Ai @g11 (decide_eq_false (show ¬((16*j+k:Nat):Int)<(text.length:Int) by omega))) ?_;refine jF ?_;refine ab ?_;simp only[aq,aA,if_true,if_false];exact tq _ _ g7 g8 g10 g11 g12 RH N6 Tn LX j7 j8 (by rw[sB _ _ _ _ (by omega)];rw[sB _ _ _ _ (by omega)] at HK;exact HK) Kf
    ·obtain rfl:k=16:=(by omega);refine jB (Ai @LX (decide_eq_false (show ¬((16:Nat):Int)<16 by decide))) ?_;refine wK fun K5 ju=>?_;refine jF ?_;refine aC ?_;simp only[aA,aq,if_true,if_false];clear ju K5;refine bq _ _ ?_;clear bq K3;rw[←hCC] at j8;refine jD (Ai @N6 (cS j (by omega))) ?_;refine⟨⟨j+1,be 4 w,by omega,YJ,g7,g8,g10,g11,RH,rfl,j7,j8,by rw[show 16*(j+1)=16*j+16 from rfl];exact HK,Kf⟩,?_⟩;simp only[Ux,aB,↓reduceIte];omega
  ·obtain rfl:j=Sl:=(by omega);refine jB (Ai @e36 (Ai @Ux (decide_eq_false (show ¬(j:Int)<(j:Int) by omega)))) ?_;refine wK fun K2 aU=>?_;refine jF ?_;refine aC ?_;simp only[aA,aq,if_true];clear aU K2;refine fQ _ _ ?_;clear fQ K1;have sO:=Aes.nC key ax text;rw[sB _ _ _ _ (by omega),fN,mn sO] at HK;have hl5:((Aes.mask key ax text).map ae).length=text.length:=(by rw[List.length_map,sO]);refine qq (eE.freeze (d:=11) (o:=sx) (off:=0) (sz:=1) (n:=text.length) (cap:=cap) (by simp only[aB,Nc,↓reduceIte];exact wM) HK (by omega)) (ct.g ?_);have ss:s.le (s6.drop sx):=AS.qj nA Uw;generalize s6.drop sx=s7 at *
   rw[show(((Aes.mask key ax text).map ae).drop 0).take (text.length*1)=(Aes.mask key ax text).map ae from by rw[List.drop_zero,List.take_of_length_le (by omega)],←sO];generalize Aes.mask key ax text=M at *
   refine jA ?_;refine jI ?_;exact⟨_,s,AV.bN,ss,rfl,rfl⟩
end Go.Proofs.YtbiefppedlodiaaGreatDoor
