/- Contracts of functions, each walked once; each theorem states its conditions. -/
import Derived.Test.YtbiefppedlodiaaGreatDoorAMp3
import Derived.Test.YtbiefppedlodiaaGreatDoorAMp6
import Derived.Test.YtbiefppedlodiaaGreatDoorW1
import Derived.Test.YtbiefppedlodiaaGreatDoorW9
import Derived.Test.YtbiefppedlodiaaGreatDoorAMp5
import Derived.Test.YtbiefppedlodiaaGreatDoorW8
import Derived.Test.YtbiefppedlodiaaGreatDoorW7
import Derived.Test.YtbiefppedlodiaaGreatDoorW2
import Derived.Test.YtbiefppedlodiaaGreatDoorW3
import Derived.Test.YtbiefppedlodiaaGreatDoorW6
open Go.IntKind renaming bits -> aC
open Int renaming natCast_zero -> du
open List renaming drop_eq_nil_of_le -> cE, length_append -> ah, length_drop -> bZ, length_map -> aR, length_pos_iff -> bX, map_append -> aB, nil_append -> aG, replicate -> ai, replicate_succ -> au, replicate_zero -> bY, take -> aX, take_append_of_le_length -> dv, take_of_length_le -> af
open Nat renaming add_sub_cancel -> dj, mod_eq_of_lt -> aN, mul_assoc -> cB, mul_mod -> cZ, pow_mod -> dA, pow_succ -> bW
set_option linter.unusedSimpArgs false
set_option linter.unusedVariables false
open Nat renaming reduceLT -> Na, reduceLeDiff -> Nb, reduceEqDiff -> Nc, reduceAdd -> Nk, reduceMul -> Nf, reducePow -> Ng, reduceSub -> Nh, reduceBEq -> Nz
open Int renaming reduceLT -> Za, reduceLE -> Zb, reduceToNat -> Zc
open And renaming intro -> Ai
open Go.AM renaming ashift -> Qa, aconv -> Qb, aindexAddr -> Qc, aindex -> Qd, aslice -> Qe, abuiltin -> Qf, awp_reg_seq -> wS, awp_reg_end -> wE, awp_seq_k -> wK, awp_cond_k -> wC
open Go.AM.AV renaming cells -> Qg, one -> Qh
set_option maxRecDepth 100000
set_option maxHeartbeats 8000000
namespace Go.AM
def PP:Nat:=2305843009213693951
theorem Se(n:Nat):n &&& 2305843009213693951=n%2305843009213693952:=by
  have:=Nat.and_two_pow_sub_one_eq_mod n 61;simpa using this
def HU(n:Int):Int:=
  let m:=iY .u64 (rG .u64 n 2305843009213693951) (kE .u64 n 61)
  if m≥2305843009213693951 then gR .u64 m 2305843009213693951 else m
theorem Sf(n:Nat)(h:n<2^64):iY .u64 (rG .u64 (n:Int) 2305843009213693951) (kE .u64 (n:Int) 61)=((n%2305843009213693952+n/2305843009213693952:Nat):Int):=by
  have e1:rG .u64 (n:Int) 2305843009213693951=((n &&& 2305843009213693951:Nat):Int):=xu (k:=.u64) rfl n 2305843009213693951 h dM;have e2:kE .u64 (n:Int) 61=((n/2^61:Nat):Int):=by
    have:=nq (k:=.u64) n 61;simpa[aC] using this
  rw[e1,e2,Ah rfl,Se,show IntKind.u64.bits=64 from rfl];exact congrArg (fun x:Nat=>(x:Int)) oM
theorem MW(n:Nat)(h:n<2^64):HU n=((n%PP:Nat):Int):=by
  unfold HU PP;rw[Sf n h];simp only;split
  · rename_i hc;have EY:2305843009213693951<=n%2305843009213693952+n/2305843009213693952:=oM;have:=Gd (k:=.u64) rfl (n%2305843009213693952+n/2305843009213693952) 2305843009213693951 EY (by simp only[aC];omega);rw[show(2305843009213693951:Int)=((2305843009213693951:Nat):Int) from rfl,this];exact congrArg (fun x:Nat=>(x:Int)) oM
  · rename_i hc;exact congrArg (fun x:Nat=>(x:Int)) oM
theorem Sg(x1 x0 y1 y0:Nat)(h1:x1<4294967296)(h2:x0<4294967296)(h3:y1<4294967296)(h4:y0<4294967296):
    x1*y1+(x1*y0+x0*y0/4294967296)/4294967296+((x1*y0+x0*y0/4294967296)%4294967296+x0*y1)/4294967296=(x1*4294967296+x0)*(y1*4294967296+y0)/18446744073709551616:=by
  have e:(x1*4294967296+x0)*(y1*4294967296+y0)=x1*y1*18446744073709551616+(x1*y0+x0*y1)*4294967296+x0*y0:=by
    simp only[Nat.add_mul,Nat.mul_add];have a1:x1*4294967296*(y1*4294967296)=x1*y1*18446744073709551616:=by
      rw[Nat.mul_mul_mul_comm]
    have a2:x0*(y1*4294967296)=x0*y1*4294967296:=(by rw[cB]);have a3:x1*4294967296*y0=x1*y0*4294967296:=(by rw[Nat.mul_right_comm]);omega
  rw[e];generalize x1*y1=A;generalize x1*y0=B;generalize x0*y1=C;generalize x0*y0=D;omega
theorem yU{a b:Nat}(ha:a<4294967296)(hb:b<4294967296):a*b<=18446744065119617025:=by
  have :a*b<=4294967295*4294967295:=Nat.mul_le_mul oM oM;omega
theorem Zn(n:Nat):n &&& 4294967295=n%4294967296:=by
  have:=Nat.and_two_pow_sub_one_eq_mod n 32;simpa using this
theorem AD(n:Nat)(h:n<2^64):rG .u64 (n:Int) 4294967295=((n%4294967296:Nat):Int):=by
  have:=xu (k:=.u64) rfl n 4294967295 h dM;rw[Zn] at this;exact this
theorem sL(n:Nat):kE .u64 (n:Int) 32=((n/4294967296:Nat):Int):=by
  have:=nq (k:=.u64) n 32;simpa[aC] using this
theorem rY(a b:Nat)(h:a+b<2^64):iY .u64 (a:Int) b=((a+b:Nat):Int):=by
  rw[Ah rfl];simp only[aC];rw[aN h]
theorem CA(a b:Nat)(h:a*b<2^64):mF .u64 (a:Int) b=((a*b:Nat):Int):=by
  rw[Hn rfl];simp only[aC];rw[aN h]
theorem Sh(a b:Nat):mF .u64 (a:Int) b=((a*b%18446744073709551616:Nat):Int):=by
  rw[Hn rfl];rfl
theorem VM(q:Nat)(h:q<2^122):iY .u64 (rG .u64 ((q%18446744073709551616:Nat):Int) 2305843009213693951) (L5 .u64 (oo .u64 ((q/18446744073709551616:Nat):Int) 3) (kE .u64 ((q%18446744073709551616:Nat):Int) 61))=
    ((q%2305843009213693952+q/2305843009213693952:Nat):Int):=by
  have e1:=xu (k:=.u64) rfl (q%18446744073709551616) 2305843009213693951 (by simp only[aC];omega) dM;have e2:kE .u64 ((q%18446744073709551616:Nat):Int) 61=((q%18446744073709551616/2305843009213693952:Nat):Int):=by
    have:=nq (k:=.u64) (q%18446744073709551616) 61;simpa[aC] using this
  have e3:oo .u64 ((q/18446744073709551616:Nat):Int) 3=((8*(q/18446744073709551616):Nat):Int):=by
    have:=xv (k:=.u64) rfl (q/18446744073709551616) 3;rw[show(3:Int)=((3:Nat):Int) from rfl,this,show min 3 IntKind.u64.bits=3 from rfl,show IntKind.u64.bits=64 from rfl];exact congrArg (fun x:Nat=>(x:Int)) oM
  rw[e2,e3,show(2305843009213693951:Int)=((2305843009213693951:Nat):Int) from rfl,e1,Se,Ge rfl _ _ (by simp only[aC];omega) (by simp only[aC];omega)];have e4:8*(q/18446744073709551616) ||| q%18446744073709551616/2305843009213693952=8*(q/18446744073709551616)+q%18446744073709551616/2305843009213693952:=by
    have:=Nat.two_pow_add_eq_or_of_lt (i:=3) (b:=q%18446744073709551616/2305843009213693952) oM (q/18446744073709551616);simpa using this.symm
  rw[e4,Ah rfl,show IntKind.u64.bits=64 from rfl];exact congrArg (fun x:Nat=>(x:Int)) oM
theorem Ke:PP<2^61:=dM
theorem gX(n:Nat):n%PP<PP:=Nat.mod_lt _ dM
theorem Si(a b:Nat):(a%PP)*(b%PP)<2^122:=by
  have h1:=gX a;have h2:=gX b;have h3:=Ke;calc (a%PP)*(b%PP)<2^61*2^61:=Nat.mul_lt_mul'' oM oM
    _=2^122:=dM
theorem PW(q:Nat):(q%2305843009213693952+q/2305843009213693952)%PP=q%PP:=by unfold PP;omega
end Go.AM
namespace Go.Proofs.YtbiefppedlodiaaGreatDoor
open Go Go.AM Go.Proofs Tryz
variable{Γ:Nat->List AV}
theorem Dy(dt:List UInt8)(h:dt.length=16):Aes.first dt<4294967296:=by
 have key:∀(l:List UInt8)(x:Nat),l.foldl (fun x b=>x*256+b.toNat) x<(x+1)*256^l.length:=by
  intro l;induction l with
  |nil=>intro x;simp
  |cons b l ih=>
   intro x;rw[List.foldl_cons];have h1:=ih (x*256+b.toNat);have hb:=b.toNat_lt;have h2:(x*256+b.toNat+1)*256^l.length<=((x+1)*256)*256^l.length:=Nat.mul_le_mul_right _ oM;rw[List.length_cons,bW,Nat.mul_comm (256^l.length),<-cB];omega
 have:=key (dt.drop 12) 0;rw[bZ,h] at this;exact this
theorem HV(dt:List UInt8)(h:dt.length=16)(i:Nat):(Aes.ET dt i).length=16:=by simp[Aes.ET,h]
theorem PX(key dt text:List UInt8)(n:Nat)(h:n<text.length):(Aes.mask key dt text).take (n+1)=(Aes.mask key dt text).take n++[text.getD n 0 ^^^ Aes.Dz key dt n]:=by
 have hl:n<(Aes.mask key dt text).length:=(by rw[Aes.mX];exact h);have e:=Aes.yV key dt text n h;rw[List.getD_eq_getElem?_getD,List.getElem?_eq_getElem hl] at e;simp only[Option.getD_some] at e;rw[List.take_succ_eq_append_getElem hl,e]
theorem xE(key dt text:List UInt8)(n:Nat)(h:text.length<=n):(Aes.mask key dt text).take n=Aes.mask key dt text:=af (by rw[Aes.mX];exact h)
theorem xbT(j:Nat)(h:j<2^50):nn .i64 ((16*j:Nat):Int) 16=((j:Nat):Int):=by
 have :nn .i64 ((16*j:Nat):Int) ((16:Nat):Int)=((j:Nat):Int):=by
  rw[nn];have e:Int.tdiv ((16*j:Nat):Int) ((16:Nat):Int)=((16*j/16:Nat):Int):=(Int.ofNat_tdiv _ 16).symm;rw[e,Nat.mul_div_cancel_left _ dM,IntWalk.i64_in _ oM]
 exact this
theorem Zo(x:UInt8):gq .u8 (x.toNat:Int)=(x.toNat:Int):=by
 rw[MX,UInt8.ofNat_toNat]
theorem xbU(n:Nat):mG (n:Int) 4294967296=((n%4294967296:Nat):Int):=mI n 4294967296
theorem Fp(key dt text:List UInt8)(hk:key.length=48)(hn:dt.length=16)(ht:text.length<=2^30)(s:AS):
  dS prog Γ 168 [.v (.string ⟨key.toArray⟩),.v (.string ⟨dt.toArray⟩),.v (.string ⟨text.toArray⟩)] s (fun r s'=>r=.v (.string ⟨(Aes.mask key dt text).toArray⟩)∧s'=s):=by
 refine fm func168 rfl ntmps168 results168 (by simp) ?_;have AE:(key.take 16).length=16:=(by simp[hk]);have hIl:(fb (key.take 16)).length=16:=(by rw[kq,AE]);have hint:=fun s=>ui (Γ:=Γ) (key.take 16) (by omega) s;have XJ:=fun s=>Fq (Γ:=Γ) (key.take 16) AE s;have YR:=fun j s=>DA (Γ:=Γ) (key.take 16) (Aes.ET dt j) AE (HV dt hn j) s;have uK:=Dy dt hn;have hval:=fun s=>BA (Γ:=Γ) (dt.drop 12) (by simp[hn]) s;rw[show nB (dt.drop 12)=Aes.first dt from rfl] at hval;have hmB:∀j k,k<16->Aes.Dz key dt (16*j+k)=(Aes.block (key.take 16) (Aes.ET dt j)).getD k 0:=by
  intro j k hk;rw[Aes.Dz,show(16*j+k)/16=j by omega,show(16*j+k)%16=k by omega]
 refine jA ?_;refine jK (DC _) ?_;rintro s1 rfl;refine wS fun K hK=>?_;simp only[↓DN,Qa,Qb,Qc,Qd,Qe,Qf,Qg,Qh,reduceCtorEq,↓reduceIte,Na,Nb,Nc,Nk,Nf,Ng,Nh,Za,Zb,Zc,TT,hk,show(0:Int)<=16 from by decide,show(16:Int)<=((48:Nat):Int) from by decide];refine b6 (hint _) ?_;intro r s2 eU;have iL:=eU.1;have hio:∃t e,r=.sl 1 16 (fb (key.take 16)) (.own t e):=by
  rcases eU.2 with⟨h,_⟩|⟨t,e,_,_,rfl⟩
  ·rw[h] at hIl;cases hIl
  ·exact⟨t,e,by rw[hIl]⟩
 obtain⟨t,e,rfl⟩:=hio;clear eU;refine jM ?_;refine b6 (dS.mB (kj.dV.cons AV.fc (kj.dV.cons AV.fc kj.dV.nil)) (XJ _)) ?_;rintro r s3 ⟨rfl,rfl⟩;refine jR hK ?_;clear hK K;have htn:List.take 16 dt=dt:=List.take_of_length_le (by omega);refine wS fun K hK=>?_;simp only[↓DN,Qa,Qb,Qc,Qd,Qe,Qf,Qg,Qh,reduceCtorEq,↓reduceIte,Na,Nb,Nc,Nk,Nf,Ng,Nh,Za,Zb,Zc,TT,hn,htn,show(0:Int)<=12 from by decide,show(12:Int)<=((16:Nat):Int) from by decide,show((16:Nat):Int)<=((16:Nat):Int) from by decide];refine b6 (hval _) ?_;rintro r s4 ⟨rfl,rfl⟩;refine jR hK ?_;clear hK K;refine jA ?_;refine wK fun K hK=>?_;refine jA ?_;refine dH ?_;clear hint XJ hval;refine dU (fun E s5=>∃j:Nat,16*j<text.length+16∧E 1=.v (.string ⟨dt.toArray⟩)∧E 2=.v (.string ⟨text.toArray⟩)∧E 7=.sl 1 256 (fb Aes.sb) .no∧E 8=.sl 1 176 (fb (fJ (List.take 16 key))) .any∧E 9=.v (.int .u64 (Aes.first dt:Nat))∧E 11=nV (16*j)∧iN s4 ((Aes.mask key dt text).take (16*j)) (E 10) s5)
  (fun E _=>match E 11 with |.v (.int _ i)=>text.length+16-i.toNat|_=>0) ?_ ?_
 ·exact⟨0,by omega,by simp only[dY,eV,Nc,↓reduceIte];rfl,by simp only[dY,eV,Nc,↓reduceIte];rfl,rfl,rfl,rfl,rfl,by simp only[dY,Nc,↓reduceIte];exact iN.nil s4⟩
 ·rintro E1 s5 ⟨j,hj,e1,e2,e7,e8,e9,wW,eU⟩ -
  refine wK fun K2 eH=>?_;by_cases nH:16*j<text.length
  ·refine jB (Ai @e2 (Ai @wW (Ai @gK (decide_eq_true (show((16*j:Nat):Int)<(text.length:Int) by omega))))) ?_;refine jE ?_;refine dX ?_;refine eH _ _ ?_;clear eH K2;refine wK fun K3 eX=>?_;refine dH ?_;have mQ:=HV dt hn j;have PY:=rY (Aes.first dt) j (by omega);have PZ:List.take 12 dt++be 4 ((Aes.first dt+j)%4294967296)=Aes.ET dt j:=rfl;have hbj:=YR j;have hmj:=hmB j;have HW:=Aes.vZ (key.take 16) (Aes.ET dt j);refine eB T.mixed [8] (by kernel_rfl) ?_;intro K hK;simp only[↓DM,eZ,DX,Nz,↓DN,Qa,Qb,Qc,Qd,Qe,Qf,Qg,Qh,reduceCtorEq,↓reduceIte,Na,Nb,Nc,Nk,Nf,Ng,Nh,Za,Zb,Zc,TT,e1,e9,wW,hn,xbT j (by omega),tH,show ¬((4294967296:Int)=0) from by decide,show(0:Int)<=12 from by decide,show(12:Int)<=((16:Nat):Int) from by decide];rw[iS j (by omega),PY,xbU];refine b6 (fU ((Aes.first dt+j)%4294967296) 4 (by omega) (by omega) _) ?_;rintro r s6 ⟨rfl,rfl⟩;simp only[↓DM,eZ,DX,Nz,↓DN,Qa,Qb,Qc,Qd,Qe,Qf,Qg,Qh,reduceCtorEq,↓reduceIte,Na,Nb,Nc,Nk,Nf,Ng,Nh,Za,Zb,Zc,TT,ga,PZ,hn,List.length_take,eS (show 12+4<2^62 by decide),eS (show min 12 16+4<2^62 by decide)];refine hK _ _ ?_;clear hK K;generalize Aes.ET dt j=cn at *
   generalize hBK:Aes.block (key.take 16) cn=bk at *
   have Zp:(fb cn).length=16:=(by rw[kq,mQ]);refine jS (Ai @e7 @e8) fun K hK=>?_;refine b6 (ui cn (by omega) _) ?_;intro r s7 BC;have sw:=BC.1;have hio:∃t e,r=.sl 1 16 (fb cn) (.own t e):=by
    rcases BC.2 with⟨h,_⟩|⟨t,e,_,_,rfl⟩
    ·rw[h] at Zp;cases Zp
    ·exact⟨t,e,by rw[Zp]⟩
   have XK:iN s4 ((Aes.mask key dt text).take (16*j)) (E1 10) s7:=eU.later sw;obtain⟨t2,ee2,rfl⟩:=hio;clear BC;refine jN (Ai @e7 @e8) ?_;refine b6 (dS.mB (kj.dV.cons (AV.dV.refl _) (kj.dV.cons AV.fc (kj.dV.cons AV.fc kj.dV.nil))) (hbj _)) ?_;rintro r s8 ⟨rfl,rfl⟩;refine jR hK ?_;clear hK K;clear hbj PZ;refine jA ?_;refine dH ?_;refine dU (fun E s9=>∃k:Nat,k<=16∧16*j+k<=text.length∧E 1=.v (.string ⟨dt.toArray⟩)∧E 2=.v (.string ⟨text.toArray⟩)∧E 7=.sl 1 256 (fb Aes.sb) .no∧E 8=.sl 1 176 (fb (fJ (List.take 16 key))) .any∧E 9=.v (.int .u64 (Aes.first dt:Nat))∧E 11=nV (16*j)∧E 13=.sl 1 16 (fb bk) .no∧E 14=nV k∧iN s4 ((Aes.mask key dt text).take (16*j+k)) (E 10) s9)
    (fun E _=>match E 14 with |.v (.int _ i)=>16-i.toNat|_=>0) ?_ ?_
   ·exact⟨0,by omega,by omega,e1,e2,e7,e8,e9,wW,rfl,rfl,by simp only[dY,Nc,↓reduceIte];exact XK⟩
   ·clear XK eU;rintro E2 s9 ⟨k,sC,hkt,g1,g2,g7,g8,g9,g11,g13,g14,sN⟩ -
    refine wK fun K6 ll=>?_;by_cases xbW:k<16
    ·have a1:=gw (16*j) k (by omega);by_cases sD:16*j+k<text.length
     ·refine jB (Ai @g2 (Ai @g11 (Ai @g14 (Ai @a1 (Ai @gK (Ai (decide_eq_true (show(k:Int)<16 by omega)) (decide_eq_true (show((16*j+k:Nat):Int)<(text.length:Int) by omega)))))))) ?_;refine jE ?_;refine dX ?_;refine ll _ _ ?_;clear ll K6;refine wK fun K7 v7=>?_;refine dH ?_;have hms:=PX key dt text (16*j+k) sD;rw[hmj k xbW] at hms;have hx:(ByteArray.mk text.toArray)[16*j+k]? =some (text.getD (16*j+k) 0):=(by rw[Mx text _ sD];simp[List.getElem?_eq_getElem sD]);have db:=ks (l:=bk) k (by omega);have hBl:(fb bk).length=16:=(by rw[kq,HW]);have vP:((Aes.mask key dt text).take (16*j+k)).length<=2^30:=(by rw[List.length_take,Aes.mX];omega);generalize text.getD (16*j+k) 0=x at *
      generalize bk.getD k 0=y at *
      generalize hBB:fb bk=BB at *
      have m0:(0:Int)<=((16*j+k:Nat):Int):=(by omega);have m1:(0:Int)<=(k:Int):=(by omega);have m2:(k:Int)<((16:Nat):Int):=(by omega);refine iw T.mixed [13] (by kernel_rfl) ?_;intro K hK;simp only[↓DM,eZ,DX,Nz,↓DN,Qa,Qb,Qc,Qd,Qe,Qf,Qg,Qh,reduceCtorEq,↓reduceIte,Na,Nb,Nc,Nk,Nf,Ng,Nh,Za,Zb,Zc,TT,g2,g11,g13,g14,a1,m0,m1,m2,hx,db,cU,Zo,sO,List.replicate_one];refine hJ (ds:=[x ^^^ y]) sN rfl rfl T.c5 T.b5 (by simp only[List.length_cons,List.length_nil];omega) ?_;intro r2 Sj xbX;refine hK _ _ ?_;clear hK K;simp only[dn,dJ,if_true,if_false];refine v7 _ _ ?_;clear v7 K7;refine jD (Ai @g14 (fy k (by omega))) ?_;refine⟨⟨k+1,by omega,by omega,g1,g2,g7,g8,g9,g11,g13,rfl,?_⟩,?_⟩
      ·simp only[dY,Nc,↓reduceIte];rw[show 16*j+(k+1)=16*j+k+1 from rfl,hms];exact xbX
      ·simp only[g14,dY,↓reduceIte];omega
     ·refine jB (Ai @g2 (Ai @g11 (Ai @g14 (Ai @a1 (Ai @gK (Ai (decide_eq_true (show(k:Int)<16 by omega)) (decide_eq_false (show ¬((16*j+k:Nat):Int)<(text.length:Int) by omega)))))))) ?_;refine jF ?_;refine ep ?_;simp only[dJ,dn,if_true,if_false];clear ll K6;refine eX _ _ ?_;clear eX K3;refine jD (Ai @g11 (Ai (gw (16*j) 16 (by omega)) (show iY .i64 ((16*j:Nat):Int) 16=((16*j+16:Nat):Int) from gw (16*j) 16 (by omega)))) ?_;refine⟨⟨j+1,by omega,g1,g2,g7,g8,g9,rfl,?_⟩,?_⟩
      ·simp only[dY,Nc,↓reduceIte];rw[xE key dt text _ (by omega)];rw[xE key dt text _ (by omega)] at sN;exact sN
      ·simp only[wW,dY,↓reduceIte];omega
    ·obtain rfl:k=16:=by omega
     ·refine jB (Ai @g2 (Ai @g11 (Ai @g14 (decide_eq_false (show ¬((16:Nat):Int)<16 by decide))))) ?_;refine jF ?_;refine ep ?_;simp only[dJ,dn,if_true,if_false];clear ll K6;refine eX _ _ ?_;clear eX K3;refine jD (Ai @g11 (Ai (gw (16*j) 16 (by omega)) (show iY .i64 ((16*j:Nat):Int) 16=((16*j+16:Nat):Int) from gw (16*j) 16 (by omega)))) ?_;refine⟨⟨j+1,by omega,g1,g2,g7,g8,g9,rfl,?_⟩,?_⟩
      ·simp only[dY,Nc,↓reduceIte];exact sN
      ·simp only[wW,dY,↓reduceIte];omega
  ·refine jB (Ai @e2 (Ai @wW (Ai @gK (decide_eq_false (show ¬((16*j:Nat):Int)<(text.length:Int) by omega))))) ?_;refine jF ?_;refine ep ?_;simp only[dJ,dn,if_true];clear eH K2;refine hK _ _ ?_;clear hK K;rw[xE key dt text _ (by omega)] at eU;have ly:=AS.le.trans iL eU.1;rcases eU.2 with⟨h1,h2⟩|⟨t3,e3,_,_,h2⟩
   ·rw[h1];refine jB @h2 ?_;refine jI ?_;exact⟨_,s1,AV.dV.refl _,ly,rfl,rfl⟩
   ·refine jB @h2 ?_;refine jI ?_;exact⟨_,s1,AV.dV.refl _,ly,rfl,rfl⟩
theorem Sk(key dt beside masked:List UInt8):Aes.tag key dt beside masked=(Mac.tag (key.drop 16) (be 4 beside.length++(beside++(dt++masked)))).take 16:=rfl
theorem Fs(key dt beside masked:List UInt8)(hk:key.length=48)(hn:dt.length=16)(hb:beside.length<=2^30)(hm:masked.length<=2^30)(s:AS):
  aI prog Γ 169 [.v (.string ⟨key.toArray⟩),.v (.string ⟨dt.toArray⟩),.v (.string ⟨beside.toArray⟩),.v (.string ⟨masked.toArray⟩)] s (.v (.string ⟨(Aes.tag key dt beside masked).toArray⟩)):=by
 refine xH func169 ntmps169 results169 ?_;have ir:aX 48 key=key:=af oM;have Ft:=fun s=>tI (Γ:=Γ) (key.drop 16) (be 4 beside.length++(beside++(dt++masked))) (by simp[hk]) (by simp[hn];omega) s;have nD:=Mac.pb (key.drop 16) (be 4 beside.length++(beside++(dt++masked)));rw[Sk];generalize hT:Mac.tag (key.drop 16) (be 4 beside.length++(beside++(dt++masked)))=T0 at *
 refine jA ?_;refine eB T.mixed [5,12] kM ?_;intro K hK;simp only[↓DM,eZ,DX,↓DN,Qa,Qb,Qc,Qd,Qe,Qf,Qg,Qh,seval,TT,hk,ir,gK,show(0:Int)<=16 from dM,show(16:Int)<=((48:Nat):Int) from dM,show((48:Nat):Int)<=((48:Nat):Int) from dM,iS beside.length (show beside.length<2^64 by omega)];refine b6 (fU beside.length 4 oM oM _) ?_;rintro r s1 ⟨rfl,rfl⟩;simp only[↓DM,eZ,DX,↓DN,Qa,Qb,Qc,Qd,Qe,Qf,Qg,Qh,seval,TT,ga,hn,eS (show 4+beside.length<2^62 by omega),eS (show 4+beside.length+16<2^62 by omega),eS (show 4+(beside.length+16)+masked.length<2^62 by omega),eS (show 4+beside.length+16+masked.length<2^62 by omega)];refine b6 (Ft _) ?_;rintro r s2 ⟨rfl,rfl⟩;refine jV (Ai @nD (Ai (show(0:Int)<=16 from dM) (show(16:Int)<=((32:Nat):Int) from dM))) hK ?_;exact jJ
theorem Fu(key dt beside text:List UInt8)(hk:key.length=48)(hn:dt.length=16)(hb:beside.length<=2^30)(ht:text.length<=2^30)(s:AS):
  aI prog Γ 120 [.v (.string ⟨key.toArray⟩),.v (.string ⟨dt.toArray⟩),.v (.string ⟨beside.toArray⟩),.v (.string ⟨text.toArray⟩)] s (.v (.string ⟨(Aes.iF key dt beside text).toArray⟩)):=by
 refine xH func120 ntmps120 results120 ?_;have vP:=Aes.mX key dt text;have c1:=fun s=>Fp (Γ:=Γ) key dt text hk hn ht s;have c2:=fun s=>Fs (Γ:=Γ) key dt beside (Aes.mask key dt text) hk hn hb oM s;have nD:=Aes.pb key dt beside (Aes.mask key dt text);have hs:Aes.iF key dt beside text=Aes.mask key dt text++Aes.tag key dt beside (Aes.mask key dt text):=rfl;rw[hs];generalize Aes.tag key dt beside (Aes.mask key dt text)=T0 at *
 generalize Aes.mask key dt text=M at *
 refine jA ?_;refine jK (c1 _) ?_;rintro s1 rfl;refine jQ fun K hK=>?_;refine b6 (c2 _) ?_;rintro r s2 ⟨rfl,rfl⟩;refine jV (Ai @nD (eS (show M.length+16<2^62 by omega))) hK ?_;exact jJ
def nW(key dt beside z:List UInt8):List UInt8:=if z.length<16 then[] else if Aes.tag key dt beside (z.take (z.length-16))=z.drop (z.length-16) then Aes.mask key dt (z.take (z.length-16)) else[]
def nX(key dt beside z:List UInt8):Nat:=if z.length<16 then 10 else if Aes.tag key dt beside (z.take (z.length-16))=z.drop (z.length-16) then 0 else 14
theorem MY(l:List UInt8)(s:AS)(h0:l.length≠0)(hl:l.length<=2^45):dS prog Γ 90 [dm l .no] s (fun r s'=>∃o cap,s.dD o=none∧r=.jd o 0 1 l.length cap∧s'=s.set o (l.map cU)):=by
 refine xH func90 ntmps90 results90 ?_;unfold dm;refine yd fun K hK=>?_;refine jB @and_false ?_;refine gW ?_;refine hK _ _<|Fi (x:=.tmp 5) (y:=.tmp 6) (T:=23) (xT:=23) (e:=5) (z:=[.v (.int .u8 0)]) (d:=7) rfl rfl rfl dM underlying23 (by simp only[↓DN,Qa,Qb,Qc,Qd,Qe,Qf,Qg,Qh,seval,TT];try rfl) (by simp only[↓DN,Qa,Qb,Qc,Qd,Qe,Qf,Qg,Qh,seval,TT];try rfl) (by rw[T.c5];decide) (by rw[T.c5];rfl) ?_;simp only[↓DN,Qa,Qb,Qc,Qd,Qe,Qf,Qg,Qh,seval,TT,nL];refine⟨_,_,rfl,h0,oM,oM,?_⟩;intro ob cap sr mV;refine jI ?_;refine⟨_,_,AV.dV.refl _,AS.le.refl _,ob,cap,sr,rfl,?_⟩;try rfl
theorem Fv(l:List UInt8)(s:AS)(h0:l.length≠0)(hl:l.length<=2^45):dS prog Γ 90 [dm l .any] s (fun r s'=>∃o cap,s.dD o=none∧r=.jd o 0 1 l.length cap∧s'=s.set o (l.map cU)):=
 dS.any (pre:=[]) (post:=[]) (fun e=>absurd (by rw[e];rfl) h0) (MY l s h0 hl)
theorem xF(F G:Nat->UInt8)(N i:Nat)(h:N<=i):eM F G N i=eM F G N N:=by
 unfold eM;apply List.map_congr_left;intro n hn;have:=List.mem_range.1 hn;rw[if_pos oM,if_pos this]
theorem xf4(l:List UInt8)(h:l.length=4):(oG 4 (l,0)).1=nB l:=by
 have e:aX 4 l=l:=af oM;simp[oG,jr,h,e]
theorem VN(i:Nat)(h:i<2^40):mF .i64 16 (i:Int)=((16*i:Nat):Int):=by
 rw[iv oM];omega
theorem set_tail(dt tl ys:List UInt8)(hn:dt.length=16)(ht:tl.length=4)(hy:ys.length=4):eQ ((dt.take 12++tl).map cU) 12 (ys.map cU)=(dt.take 12++ys).map cU:=by
 have h1:(dt.take 12).length=12:=(by simp[hn]);generalize dt.take 12=a at *
 rw[xG _ _ _ (by rw[aR,aR,ah];omega),aB,aB,dv (by rw[aR];omega),af (by rw[aR];omega),cE (by rw[ah,aR,aR,aR];omega),List.append_nil]
theorem B9(key dt text:List UInt8)(hk:key.length=48)(hn:dt.length=16)(h0:text.length≠0)(ht:text.length<=2^30)(s:AS):
  dS prog Γ 189 [dm key .any,dm dt .any,dm text .any] s (fun r s'=>r=dm (Aes.mask key dt text) .any∧s'=s):=by
 refine rT func189 rfl ntmps189 results189 (by simp) ?_;have AE:(key.take 16).length=16:=(by simp[hk]);have Sl:(List.take 16 (key.map cU)).length=16:=(by simp[hk]);have Sm:(List.take 16 (key.map cU)).all AV.one=true:=(by rw[<-List.map_take];exact gy _);have Gt:(dt.map cU).length=16:=(by rw[List.length_map,hn]);have Zl:=gy dt;have Sn:List.take 16 (dt.map cU)=dt.map cU:=List.take_of_length_le (by omega);have uK:=Dy dt hn;unfold dm;rw[hk,hn];refine fo ?_;intro K1 iW;refine jC ?_;simp only[dJ];refine iW _ _ ?_;clear iW K1;refine fo ?_;intro K1 iW;refine jT fun K hK=>?_;intro o7 DD o8 MZ;obtain⟨Zq,P0⟩:=AS.km MZ;rw[XL];refine hK _ _ ?_;clear hK K;simp only[dJ];refine iW _ _ ?_;clear iW K1;generalize pZ:(s.set o7 (List.replicate 16 (bV 0))).set o8 (List.replicate 16 (bV 0))=s0 at *
 have j7:s0.dD o7=some (List.replicate 16 (bV 0)):=(by rw[<-pZ,AS.cO _ Zq.symm,AS.bG]);have j8:s0.dD o8=some (List.replicate 16 (bV 0)):=(by rw[<-pZ];exact AS.bG _ _ _);have hle:s.le s0:=(by rw[<-pZ];exact AS.dW (AS.dW (AS.le.refl s) DD _) P0 _);clear pZ MZ;have yo:(List.replicate 16 (bV 0)).length=16:=(by simp);generalize hZ:List.replicate 16 (bV 0)=Z at *
 refine fo ?_;intro K1 iW;refine jU (Ai @j7 (Ai @yo (Ai @Sl (Ai @Sm (Ai (show(0:Int)<=((16:Nat):Int) from by decide) (Ai (show((16:Nat):Int)<=((16:Nat):Int) from by decide) (Ai (show ¬(((16:Nat):Int)=0) from by decide) (show min 48 16=16 from rfl)))))))) fun K hK=>?_;rw[fj Z ((key.take 16).map cU) (by rw[yo,List.length_map,AE])];refine hK _ _ ?_;clear hK K;simp only[dJ];refine iW _ _ ?_;clear iW K1;generalize lA:s0.set o7 ((key.take 16).map cU)=s1 at *
 have q7:s1.dD o7=some ((key.take 16).map cU):=(by rw[<-lA];exact AS.bG _ _ _);have q8:s1.dD o8=some Z:=(by rw[<-lA,AS.cO _ Zq];exact j8);have uL:s.le s1:=(by rw[<-lA];exact AS.dW hle DD _);clear lA j7 j8 hle;refine fo ?_;intro K1 iW;refine jU (Ai @q8 (Ai @yo (Ai @Gt (Ai @Zl (Ai @Sn (Ai (show(0:Int)<=((16:Nat):Int) from by decide) (Ai (show((16:Nat):Int)<=((16:Nat):Int) from by decide) (Ai (show ¬(((16:Nat):Int)=0) from by decide) (Ai (show min 48 16=16 from rfl) (show min 16 16=16 from rfl)))))))))) fun K hK=>?_;rw[fj Z (dt.map cU) (by rw[yo,Gt])];refine hK _ _ ?_;clear hK K;simp only[dJ];refine iW _ _ ?_;clear iW K1;generalize oq:s1.set o8 (dt.map cU)=s2 at *
 have j7:s2.dD o7=some ((key.take 16).map cU):=(by rw[<-oq,AS.cO _ Zq.symm];exact q7);have j8:s2.dD o8=some (dt.map cU):=(by rw[<-oq];exact AS.bG _ _ _);have iL:s.le s2:=(by rw[<-oq];exact AS.dW uL P0 _);clear oq q7 q8 uL;have Sq:(dt.drop 12).length=4:=(by simp[hn]);have lJ:=fun s=>xI (Γ:=Γ) (dt.drop 12) s (by omega);unfold dm at lJ;rw[Sq] at lJ;refine fo ?_;intro K1 iW;refine wE fun K hK=>?_;simp only[↓DN,Qa,Qb,Qc,Qd,Qe,Qf,Qg,Qh,reduceCtorEq,↓reduceIte,Na,Nb,Nc,Nk,Nf,Ng,Nh,Za,Zb,Zc,TT,Sn,hn,show(0:Int)<=12 from by decide,show(12:Int)<=((16:Nat):Int) from by decide,show((16:Nat):Int)<=((16:Nat):Int) from by decide];refine b6 (lJ _) ?_;rintro r s3 ⟨p,rfl,hp⟩;refine jR hK ?_;clear hK K;simp only[dJ];refine iW _ _ ?_;clear iW K1;refine fo ?_;intro K1 iW;refine jT fun K hK=>?_;refine b6 (yW s2 s3 p _ hp) ?_;rintro r s4 ⟨rfl,Dt⟩;rw[xf4 _ Sq,show nB (dt.drop 12)=Aes.first dt from rfl];have hcv:gq .u32 ((Aes.first dt:Nat):Int)=((Aes.first dt:Nat):Int):=by
  rw[nh rfl];simp only[IntKind.bits];rw[Nat.mod_eq_of_lt (by omega)]
 refine jV @hcv hK ?_;clear hK K;have q7:=Dt.le.dD _ _ j7;have q8:=Dt.le.dD _ _ j8;have ie:s.le s4:=AS.le.trans iL Dt.le;clear hp Dt j7 j8 iL lJ hcv;simp only[dJ];refine iW _ _ ?_;clear iW K1;refine fo ?_;intro K1 iW;refine jT fun K hK=>?_;refine b6 (Fv text s4 h0 (by omega)) ?_;rintro r s5 ⟨qC,cap,AF,rfl,rfl⟩;refine jR hK ?_;clear hK K;simp only[dJ];refine iW _ _ ?_;clear iW K1;have n117:qC≠o7:=(fun e=>by rw[e,q7] at AF;cases AF);have n118:qC≠o8:=(fun e=>by rw[e,q8] at AF;cases AF);have P1:s.dD qC=none:=by
  cases h:s.dD qC with
  |none=>rfl
  |some cs=>rw[ie.dD _ _ h] at AF;cases AF
 have XM:eM (fun n=>(Aes.mask key dt text).getD n 0) (fun n=>text.getD n 0) text.length 0=text.map cU:=(by rw[xJ,oO rfl]);rw[<-XM];generalize Jd:s4.set qC (eM (fun n=>(Aes.mask key dt text).getD n 0) (fun n=>text.getD n 0) text.length 0)=s5 at *
 have j7:s5.dD o7=some ((key.take 16).map cU):=(by rw[<-Jd,AS.cO _ n117.symm];exact q7);have j8:s5.dD o8=some ((dt.take 12++dt.drop 12).map cU):=(by rw[<-Jd,AS.cO _ n118.symm,List.take_append_drop];exact q8);have M0:s5.dD qC=some (eM (fun n=>(Aes.mask key dt text).getD n 0) (fun n=>text.getD n 0) text.length 0):=(by rw[<-Jd];exact AS.bG _ _ _);have ly:s.le s5:=(by rw[<-Jd];exact AS.dW ie P1 _);clear Jd q7 q8 ie AF XM;have c1:iY .i64 (text.length:Int) 16=((text.length+16:Nat):Int):=gw text.length 16 (by omega);have c2:gR .i64 ((text.length+16:Nat):Int) 1=((text.length+15:Nat):Int):=ju (text.length+16) 1 (by omega) (by omega);have c3:nn .i64 ((text.length+15:Nat):Int) 16=(((text.length+15)/16:Nat):Int):=by
  have :nn .i64 ((text.length+15:Nat):Int) ((16:Nat):Int)=(((text.length+15)/16:Nat):Int):=by
   rw[nn];have e:Int.tdiv ((text.length+15:Nat):Int) ((16:Nat):Int)=(((text.length+15)/16:Nat):Int):=(Int.ofNat_tdiv _ 16).symm;rw[e,IntWalk.i64_in _ (by omega)]
  exact this
 have hcn:16*((text.length+15)/16)≥text.length:=(by omega);have xj0:16*((text.length+15)/16)<text.length+16:=(by omega);generalize (text.length+15)/16=XN at *
 refine fo ?_;intro K1 iW;refine jB (Ai @c1 (Ai @c2 (Ai @c3 @tH))) ?_;clear c1 c2 c3;refine dH ?_;refine dU (fun E s6=>∃(j:Nat)(tl:List UInt8),j<=XN∧tl.length=4∧E 7=.ptr o7 0∧E 8=.ptr o8 0∧E 10=.v (.int .u32 (Aes.first dt:Nat))∧E 11=.jd qC 0 1 text.length cap∧E 36=nV XN∧E 37=nV j∧s6.dD o7=some ((key.take 16).map cU)∧s6.dD o8=some ((dt.take 12++tl).map cU)∧s6.dD qC=some (eM (fun n=>(Aes.mask key dt text).getD n 0) (fun n=>text.getD n 0) text.length (16*j))∧s.le s6)
  (fun E _=>match E 37 with |.v (.int _ i)=>XN-i.toNat|_=>0) ?_ ?_
 ·exact⟨0,dt.drop 12,by omega,Sq,rfl,rfl,rfl,rfl,rfl,rfl,j7,j8,M0,ly⟩
 ·clear j7 j8 M0 ly;rintro E1 s6 ⟨j,tl,hj,nD,e7,e8,Sr,wW,e36,Zr,j7,j8,M0,mY⟩ -
  by_cases nH:j<XN
  ·refine jB (Ai @e36 (Ai @Zr (decide_eq_true (show(j:Int)<(XN:Int) by omega)))) ?_;refine wK fun K2 eH=>?_;refine jE ?_;refine dX ?_;refine eH _ _ ?_;clear eH K2;refine wK fun K3 eX=>?_;refine dH ?_;refine jB @Zr ?_;have w1:gq .u32 ((j:Nat):Int)=((j:Nat):Int):=by
    rw[nh rfl];simp only[IntKind.bits];rw[Nat.mod_eq_of_lt (by omega)]
   have w2:=yX (Aes.first dt) j;rw[show Sha.j9 (Aes.first dt) j=(Aes.first dt+j)%4294967296 from rfl] at w2;refine jB (Ai @Sr (Ai @w1 @w2)) ?_;have PZ:(dt.take 12++be 4 ((Aes.first dt+j)%4294967296))=Aes.ET dt j:=rfl;have UN:(be 4 ((Aes.first dt+j)%4294967296)).map cU=[bV (UInt8.ofNat ((Aes.first dt+j)%4294967296/16777216)),bV (UInt8.ofNat ((Aes.first dt+j)%4294967296/65536)),bV (UInt8.ofNat ((Aes.first dt+j)%4294967296/256)),bV (UInt8.ofNat ((Aes.first dt+j)%4294967296))]:=(by simp[be,cU]);have fO:=set_tail dt tl (be 4 ((Aes.first dt+j)%4294967296)) hn nD (by simp);rw[PZ,UN] at fO;have VO:((dt.take 12++tl).map cU).length=16:=(by simp[hn,nD]);have XO:=AG ((Aes.first dt+j)%4294967296) 24 (by decide);have P2:=AG ((Aes.first dt+j)%4294967296) 16 (by decide);have s8':=AG ((Aes.first dt+j)%4294967296) 8 (by decide);generalize (Aes.first dt+j)%4294967296=w at *
   generalize hO:(dt.take 12++tl).map cU=O at *
   refine jS (Ai @e8 (Ai @j8 (Ai @XO (Ai @P2 (Ai @s8' (Ai (show kE .u32 (w:Int) 24=((w/2^24:Nat):Int) from XO) (Ai (show kE .u32 (w:Int) 16=((w/2^16:Nat):Int) from P2) (Ai (show kE .u32 (w:Int) 8=((w/2^8:Nat):Int) from s8') (Ai @MX (Ai @XP (Ai @fO (Ai @VO (Ai (show(12:Int)<=((16:Nat):Int) from by decide) (Ai (show((16:Nat):Int)<=((16:Nat):Int) from by decide) (Ai (show ¬(((16:Nat):Int)=12) from by decide) (show min 4 4=4 from rfl)))))))))))))))) fun K hK=>?_;first
    |refine hK _ _ ?_
    |refine⟨by omega,hK _ _ ?_⟩
   clear hK K;generalize XQ:s6.set o8 ((Aes.ET dt j).map cU)=s7 at *
   have q7:s7.dD o7=some ((key.take 16).map cU):=(by rw[<-XQ,AS.cO _ Zq.symm];exact j7);have q8:s7.dD o8=some ((Aes.ET dt j).map cU):=(by rw[<-XQ];exact AS.bG _ _ _);have wX:s7.dD qC=some (eM (fun n=>(Aes.mask key dt text).getD n 0) (fun n=>text.getD n 0) text.length (16*j)):=(by rw[<-XQ,AS.cO _ n118];exact M0);have sw:s.le s7:=(by rw[<-XQ];exact AS.dW mY P0 _);clear XQ j7 j8 M0 mY fO UN VO;have mQ:=HV dt hn j;have VP:=fun s=>DE (Γ:=Γ) (key.take 16) (Aes.ET dt j) AE mQ s;have HW:=Aes.vZ (key.take 16) (Aes.ET dt j);have UO:((key.take 16).map cU).length=16:=(by rw[List.length_map,AE]);have hKt:List.take 16 ((key.take 16).map cU)=(key.take 16).map cU:=List.take_of_length_le (by omega);have hCl:((Aes.ET dt j).map cU).length=16:=(by rw[List.length_map,mQ]);have hCt:List.take 16 ((Aes.ET dt j).map cU)=(Aes.ET dt j).map cU:=List.take_of_length_le (by omega);have hBa:=gy (Aes.block (key.take 16) (Aes.ET dt j));have VQ:((Aes.block (key.take 16) (Aes.ET dt j)).map cU).length=16:=(by rw[List.length_map,HW]);have hBt:List.take 16 ((Aes.block (key.take 16) (Aes.ET dt j)).map cU)=(Aes.block (key.take 16) (Aes.ET dt j)).map cU:=List.take_of_length_le (by omega);have hmB:∀k,k<16->Aes.Dz key dt (16*j+k)=(Aes.block (key.take 16) (Aes.ET dt j)).getD k 0:=by
    intro k hk;rw[Aes.Dz,show(16*j+k)/16=j by omega,show(16*j+k)%16=k by omega]
   have xbZ:(be 4 w).length=4:=(by simp);rw[<-PZ] at q8;generalize hBK:Aes.block (key.take 16) (Aes.ET dt j)=bk at *
   rw[<-PZ] at hCl hCt VP;generalize hKK:(key.take 16).map cU=KK at *
   generalize hCC:(dt.take 12++be 4 w).map cU=CC at *
   refine jS (Ai @e7 (Ai @e8 (Ai @q7 (Ai @q8 (Ai @UO (Ai @hKt (Ai @hCl (Ai @hCt @Nat.le_refl)))))))) fun K hK=>?_;refine b6 (VP _) ?_;rintro r s8 ⟨rfl,rfl⟩;refine jN (Ai @VQ (Ai @hBa @Nat.le_refl)) ?_;intro uj HX;rw[XL,fj (List.replicate 16 (bV 0)) (bk.map cU) (by rw[VQ];simp)];refine hK _ _ ?_;clear hK K;have n147:uj≠o7:=(fun e=>by rw[e,q7] at HX;cases HX);have n148:uj≠o8:=(fun e=>by rw[e,q8] at HX;cases HX);have Ss:uj≠qC:=(fun e=>by rw[e,wX] at HX;cases HX);have xf5:s.dD uj=none:=by
    cases h:s.dD uj with
    |none=>rfl
    |some cs=>rw[sw.dD _ _ h] at HX;cases HX
   generalize UQ:s8.set uj (bk.map cU)=s9 at *
   have j7:s9.dD o7=some KK:=(by rw[<-UQ,AS.cO _ n147.symm];exact q7);have j8:s9.dD o8=some CC:=(by rw[<-UQ,AS.cO _ n148.symm];exact q8);have M0:s9.dD qC=some (eM (fun n=>(Aes.mask key dt text).getD n 0) (fun n=>text.getD n 0) text.length (16*j)):=(by rw[<-UQ,AS.cO _ Ss.symm];exact wX);have Je:s9.dD uj=some (bk.map cU):=(by rw[<-UQ];exact AS.bG _ _ _);have P3:s.le s9:=(by rw[<-UQ];exact AS.dW sw xf5 _);clear UQ q7 q8 wX sw HX VP hBa;refine jB (Ai @Je (Ai @VQ (Ai @hBt @Nat.le_refl))) ?_;refine dH ?_;refine dU (fun E Sj=>∃k:Nat,k<=16∧E 7=.ptr o7 0∧E 8=.ptr o8 0∧E 10=.v (.int .u32 (Aes.first dt:Nat))∧E 11=.jd qC 0 1 text.length cap∧E 12=nV j∧E 36=nV XN∧E 37=nV j∧E 61=.agg (bk.map cU)∧E 62=nV k∧Sj.dD o7=some KK∧Sj.dD o8=some CC∧Sj.dD qC=some (eM (fun n=>(Aes.mask key dt text).getD n 0) (fun n=>text.getD n 0) text.length (16*j+k))∧s.le Sj)
    (fun E _=>match E 62 with |.v (.int _ i)=>16-i.toNat|_=>0) ?_ ?_
   ·exact⟨0,by omega,e7,e8,Sr,wW,rfl,e36,Zr,rfl,rfl,j7,j8,M0,P3⟩
   ·clear j7 j8 M0 Je P3;rintro E2 Sj ⟨k,sC,g7,g8,g10,g11,g12,XR,UR,Zs,Su,j7,j8,M0,P3⟩ -
    by_cases QX:k<16
    ·refine jB (Ai @Su (decide_eq_true (show(k:Int)<16 by omega))) ?_;refine wK fun K5 mE=>?_;refine jE ?_;refine dX ?_;refine mE _ _ ?_;clear mE K5;refine wK fun K6 ll=>?_;refine dH ?_;have hbi:(bk.map cU)[k]? =some (cU (bk.getD k 0)):=(by simp[List.getElem?_eq_getElem (show k<bk.length by omega)]);have hbd:=iG (l:=bk) k (by omega);have JS:=hmB k QX;have m1:(0:Int)<=(k:Int):=(by omega);have m2:(k:Int)<((16:Nat):Int):=(by omega);have a0:=VN j (by omega);have a1:=gw (16*j) k (by omega);have qW:∀(E3:Env)(Sv:AS),E3 7=.ptr o7 0->E3 8=.ptr o8 0->E3 10=.v (.int .u32 (Aes.first dt:Nat))->E3 11=.jd qC 0 1 text.length cap->E3 12=nV j->E3 36=nV XN->E3 37=nV j->E3 61=.agg (bk.map cU)->E3 62=nV k->
       Sv.dD o7=some KK->Sv.dD o8=some CC->Sv.dD qC=some (eM (fun n=>(Aes.mask key dt text).getD n 0) (fun n=>text.getD n 0) text.length (16*j+k+1))->s.le Sv->K6 E3 Sv:=by
      intro E3 Sv f7 f8 f10 f11 f12 f36 f37 f61 f62 t7 t8 t11 xb0;refine ll _ _ ?_;clear ll K6;refine jD (Ai @f62 (fy k (by omega))) ?_;refine⟨⟨k+1,by omega,f7,f8,f10,f11,f12,f36,f37,f61,rfl,t7,t8,by rw[show 16*j+(k+1)=16*j+k+1 from rfl];exact t11,xb0⟩,?_⟩;simp only[Su,dY,↓reduceIte];omega
     clear ll;refine wS fun K hK=>?_;simp only[↓DN,Qa,Qb,Qc,Qd,Qe,Qf,Qg,Qh,reduceCtorEq,↓reduceIte,Na,Nb,Nc,Nk,Nf,Ng,Nh,Za,Zb,Zc,TT,Zs,Su,m1,m2,hbi,hbd,VQ,cU];refine hK _ _ ?_;clear hK K;refine jB (Ai @g12 (Ai @a0 @a1)) ?_;by_cases CB:16*j+k<text.length
     ·have fO:=jo (fun n=>(Aes.mask key dt text).getD n 0) (fun n=>text.getD n 0) text.length (16*j+k) _ rfl;have Xz:=tJ (fun n=>(Aes.mask key dt text).getD n 0) (fun n=>text.getD n 0) text.length (16*j+k) (16*j+k) CB;rw[if_neg (Nat.lt_irrefl _)] at Xz;rw[Aes.yV key dt text (16*j+k) CB,JS] at fO;have hlen:=iC (fun n=>(Aes.mask key dt text).getD n 0) (fun n=>text.getD n 0) text.length (16*j+k);generalize DG:eM (fun n=>(Aes.mask key dt text).getD n 0) (fun n=>text.getD n 0) text.length (16*j+k+1)=R' at *
      generalize eM (fun n=>(Aes.mask key dt text).getD n 0) (fun n=>text.getD n 0) text.length (16*j+k)=R at *
      generalize text.getD (16*j+k) 0=x at *
      generalize bk.getD k 0=y at *
      have m3:(0:Int)<=((16*j+k:Nat):Int):=(by omega);have m4:((16*j+k:Nat):Int)<(text.length:Int):=(by omega);have m5:16*j+k+1<=text.length:=(by omega);refine jB (Ai @g11 (decide_eq_true m4)) ?_;refine jE ?_;refine wE fun K hK=>?_;simp only[↓DN,Qa,Qb,Qc,Qd,Qe,Qf,Qg,Qh,reduceCtorEq,↓reduceIte,Na,Nb,Nc,Nk,Nf,Ng,Nh,Za,Zb,Zc,TT,g11,m3,m4,m5,CB,M0,Xz,cU,sO,fO,hlen];refine hK _ _ ?_;clear hK K;simp only[dn,dJ,if_true,if_false];exact qW _ _ g7 g8 g10 g11 g12 XR UR Zs Su (by rw[AS.cO _ n117.symm];exact j7) (by rw[AS.cO _ n118.symm];exact j8) (AS.bG _ _ _) (AS.dW P3 P1 _)
     ·refine jB (Ai @g11 (decide_eq_false (show ¬((16*j+k:Nat):Int)<(text.length:Int) by omega))) ?_;refine jF ?_;refine dX ?_;simp only[dn,dJ,if_true,if_false];exact qW _ _ g7 g8 g10 g11 g12 XR UR Zs Su j7 j8 (by rw[xF _ _ _ _ (by omega)];rw[xF _ _ _ _ (by omega)] at M0;exact M0) P3
    ·obtain rfl:k=16:=(by omega);refine jB (Ai @Su (decide_eq_false (show ¬((16:Nat):Int)<16 by decide))) ?_;refine wK fun K5 mE=>?_;refine jF ?_;refine ep ?_;simp only[dJ,dn,if_true,if_false];clear mE K5;refine eX _ _ ?_;clear eX K3;rw[<-hCC] at j8;refine jD (Ai @UR (fy j (by omega))) ?_;refine⟨⟨j+1,be 4 w,by omega,xbZ,g7,g8,g10,g11,XR,rfl,j7,j8,by rw[show 16*(j+1)=16*j+16 from rfl];exact M0,P3⟩,?_⟩;simp only[Zr,dY,↓reduceIte];omega
  ·obtain rfl:j=XN:=(by omega);refine jB (Ai @e36 (Ai @Zr (decide_eq_false (show ¬(j:Int)<(j:Int) by omega)))) ?_;refine wK fun K2 eH=>?_;refine jF ?_;refine ep ?_;simp only[dJ,dn,if_true];clear eH K2;refine iW _ _ ?_;clear iW K1;have vP:=Aes.mX key dt text;rw[xF _ _ _ _ (by omega),lR,oO vP] at M0;have hl5:((Aes.mask key dt text).map cU).length=text.length:=(by rw[List.length_map,vP]);refine vS (kx.freeze (d:=11) (o:=qC) (off:=0) (sz:=1) (n:=text.length) (cap:=cap) (by simp only[dY,Nc,↓reduceIte];exact wW) M0 (by omega)) (fY.g ?_);have sw:s.le (s6.drop qC):=AS.th mY P1;generalize s6.drop qC=s7 at *
   rw[show(((Aes.mask key dt text).map cU).drop 0).take (text.length*1)=(Aes.mask key dt text).map cU from by rw[List.drop_zero,List.take_of_length_le (by omega)],<-vP];generalize Aes.mask key dt text=M at *
   refine jA ?_;refine jI ?_;exact⟨_,s,AV.fc,sw,rfl,rfl⟩
theorem Ca(key dt:List UInt8)(hk:key.length=48)(hn:dt.length=16)(s:AS):
  aI prog Γ 189 [dm key .any,dm dt .any,dm [] .any] s (dm [] .any):=by
 refine xH func189 ntmps189 results189 ?_;have AE:(key.take 16).length=16:=(by simp[hk]);have Sl:(aX 16 (key.map cU)).length=16:=(by simp[hk]);have Sm:(aX 16 (key.map cU)).all AV.one=true:=(by rw[<-List.map_take];exact gy _);have Gt:(dt.map cU).length=16:=(by rw[aR,hn]);have Zl:=gy dt;have Sn:aX 16 (dt.map cU)=dt.map cU:=af oM;have uK:=Dy dt hn;have AH:=fun s=>yY (Γ:=Γ) [] s sM;unfold dm at AH⊢;rw[hk,hn];refine jA ?_;refine jQ fun K hK=>?_;intro o7 DD o8 MZ;obtain⟨Zq,P0⟩:=AS.km MZ;rw[XL];refine hK _ _ ?_;clear hK K;generalize pZ:(s.set o7 (ai 16 (bV 0))).set o8 (ai 16 (bV 0))=s0 at *
 have j7:s0.dD o7=some (ai 16 (bV 0)):=(by rw[<-pZ,AS.cO _ Zq.symm,AS.bG]);have j8:s0.dD o8=some (ai 16 (bV 0)):=(by rw[<-pZ];exact AS.bG _ _ _);have hle:s.le s0:=(by rw[<-pZ];exact AS.dW (AS.dW (AS.le.refl s) DD _) P0 _);clear pZ MZ;have yo:(ai 16 (bV 0)).length=16:=sM;generalize hZ:ai 16 (bV 0)=Z at *
 refine jB (Ai @j7 (Ai @yo (Ai @Sl (Ai @Sm (Ai (show(0:Int)<=((16:Nat):Int) from dM) (Ai (show((16:Nat):Int)<=((16:Nat):Int) from dM) (Ai (show ¬(((16:Nat):Int)=0) from dM) (show min 48 16=16 from rfl)))))))) ?_;generalize lA:s0.set o7 (eQ Z 0 (List.map cU (aX 16 key)))=s1 at *
 have q8:s1.dD o8=some Z:=(by rw[<-lA,AS.cO _ Zq];exact j8);have uL:s.le s1:=(by rw[<-lA];exact AS.dW hle DD _);clear lA j7 j8 hle;refine jB (Ai @q8 (Ai @yo (Ai @Gt (Ai @Zl (Ai @Sn (Ai (show(0:Int)<=((16:Nat):Int) from dM) (Ai (show((16:Nat):Int)<=((16:Nat):Int) from dM) (Ai (show ¬(((16:Nat):Int)=0) from dM) (show min 16 16=16 from rfl))))))))) ?_;generalize oq:s1.set o8 (eQ Z 0 (dt.map cU))=s2 at *
 have iL:s.le s2:=(by rw[<-oq];exact AS.dW uL P0 _);clear oq q8 uL;have Sq:(dt.drop 12).length=4:=(by simp[hn]);have lJ:=fun s=>xI (Γ:=Γ) (dt.drop 12) s oM;unfold dm at lJ;rw[Sq] at lJ;refine wS fun K hK=>?_;simp only[↓DN,Qa,Qb,Qc,Qd,Qe,Qf,Qg,Qh,seval,TT,Sn,hn,show(0:Int)<=12 from dM,show(12:Int)<=((16:Nat):Int) from dM,show((16:Nat):Int)<=((16:Nat):Int) from dM];refine b6 (lJ _) ?_;rintro r s3 ⟨p,rfl,hp⟩;refine jR hK ?_;clear hK K;refine jQ fun K hK=>?_;refine b6 (yW s2 s3 p _ hp) ?_;rintro r s4 ⟨rfl,Dt⟩;refine jR hK ?_;clear hK K;have ie:s.le s4:=AS.le.trans iL Dt.le;clear hp Dt iL lJ;refine jK (AH _) ?_;rintro s5 rfl;have c1:iY .i64 ((0:Nat):Int) 16=((16:Nat):Int):=gw 0 16 oM;have c2:gR .i64 ((16:Nat):Int) 1=((15:Nat):Int):=ju 16 1 oM oM;have c3:nn .i64 ((15:Nat):Int) 16=((0:Nat):Int):=dM;refine wK fun K hK=>wS fun K hK=>?_;simp only[↓DN,Qa,Qb,Qc,Qd,Qe,Qf,Qg,Qh,seval,TT,List.length_nil,c1,c2,c3,tH];refine hK _ _ ?_;clear hK K;clear c1 c2 c3;refine dH<|dU (fun E s6=>E 11=.sl 1 0 [] .any∧E 36=nV 0∧E 37=nV 0∧s6=s5)
  (fun E _=>0) ?_ ?_
 ·exact⟨rfl,rfl,rfl,rfl⟩
 ·rintro E1 s6 ⟨wW,e36,Zr,rfl⟩ -
  refine jB (Ai @e36 (Ai @Zr (dF (show ¬((0:Nat):Int)<((0:Nat):Int) by decide)))) ?_;refine Jb fun K2 eH=>?_;simp only[dJ,dn,if_true];refine hK _ _<|jB @wW ?_;refine jI ?_;exact⟨_,s,AV.dV.refl _,ie,rfl,rfl⟩
theorem DH(key dt text:List UInt8)(hk:key.length=48)(hn:dt.length=16)(ht:text.length<=2^30)(s:AS):
  aI prog Γ 189 [dm key .any,dm dt .any,dm text .any] s (dm (Aes.mask key dt text) .any):=by
 by_cases h0:text.length=0
 ·obtain rfl:=List.eq_nil_of_length_eq_zero h0;rw[show Aes.mask key dt []=[] from rfl];exact Ca key dt hk hn s
 ·exact B9 key dt text hk hn h0 ht s
theorem BD(n c:Nat):(((n:Nat):Int)==((c:Nat):Int))=decide (n=c):=by
 by_cases h:n=c
 ·subst h;simp
 ·rw[dF h];simp;omega
theorem BF(key dt:List UInt8)(s:AS):
  aI prog Γ 188 [dm key .any,dm dt .any] s (.v (.bool (decide (key.length=48∧dt.length=16)))):=by
 refine xH func188 ntmps188 results188 ?_;have e1:((key.length:Int)==48)=decide (key.length=48):=BD key.length 48;have e2:((dt.length:Int)==16)=decide (dt.length=16):=BD dt.length 16;by_cases h1:key.length=48
 ·rw[dT h1] at e1;by_cases h2:dt.length=16
  ·rw[dT h2] at e2;rw[dT (⟨h1,h2⟩:key.length=48∧dt.length=16)];refine jA ?_;refine jB (Ai @e1 @e2) ?_;exact jJ
  ·rw[dF h2] at e2;rw[dF (fun h:key.length=48∧dt.length=16=>h2 h.2)];refine jA ?_;refine jB (Ai @e1 @e2) ?_;exact jJ
 ·rw[dF h1] at e1;rw[dF (fun h:key.length=48∧dt.length=16=>h1 h.1)];refine jA ?_;refine jB @e1 ?_;exact jJ
theorem Kf(a b c d:List UInt8):mL [a,b,c,d]=[dm a .any,dm b .any,dm c .any,dm d .any]:=rfl
theorem DI(jg:Γ 0=jZ Sha.H0)(hG:Γ 1=Sha.K.map wV)(key dt beside masked:List UInt8)(hk:key.length=48)(hn:dt.length=16)(hb:beside.length<=2^30)(hm:masked.length<=2^30)(s:AS):
  aI prog Γ 190 [dm key .any,dm dt .any,dm beside .any,dm masked .any] s (dm (Aes.tag key dt beside masked) .any):=by
 refine xH func190 ntmps190 results190 ?_;have hps:eP 4 (beside.length:Int) ([],false)=(be 4 beside.length,false):=by
  unfold eP;rw[if_pos ⟨oM,oM⟩];simp[jX]
 have LU:(key.drop 16).length=32:=(by simp[hk]);have Ft:=fun s=>tK (Γ:=Γ) jg hG (key.drop 16) [be 4 beside.length,beside,dt,masked] .new oM sM (by simp[hn];omega) s;rw[show[be 4 beside.length,beside,dt,masked].flatten=be 4 beside.length++(beside++(dt++masked)) from sM,Kf] at Ft;have nD:=Mac.pb (key.drop 16) (be 4 beside.length++(beside++(dt++masked)));rw[Sk];have HW:(be 4 beside.length).length=4:=sM;generalize Mac.tag (key.drop 16) (be 4 beside.length++(beside++(dt++masked)))=T0 at *
 have ir:aX 48 key=key:=af oM;refine jA ?_;refine jQ fun K hK=>?_;refine b6 (v8 s) ?_;rintro r s1 ⟨p,rfl,q1⟩;refine jR hK ?_;refine jQ fun K hK=>?_;refine b6 (yZ s s1 p ([],false) (beside.length:Int) oM sM q1) ?_;rintro r s2 ⟨rfl,q2⟩;rw[hps] at q2;refine jR hK ?_;refine jQ fun K hK=>?_;refine b6 (nY s s2 p _ sM q2) ?_;rintro r s3 ⟨rfl,rfl⟩;generalize be 4 beside.length=bh at *
 refine jR hK ?_;unfold dm at Ft;rw[LU] at Ft;have xb1:∀x:AV,ai 4 x=[x,x,x,x]:=fun _=>rfl;refine wS fun K hK=>?_;simp only[↓DN,Qa,Qb,Qc,Qd,Qe,Qf,Qg,Qh,seval,TT,hk,ir,xb1,show(0:Int)<=16 from dM,show(16:Int)<=((48:Nat):Int) from dM,show((48:Nat):Int)<=((48:Nat):Int) from dM];refine b6 (Ft _) ?_;intro r s4 eU;have ie:s.le s4:=AS.le.trans q2.le eU.1;obtain⟨t,e,rfl⟩:=gD eU (by rw[<-bX,nD];decide);clear eU;refine jV (Ai @nD (Ai (show(0:Int)<=16 from dM) (Ai (show(16:Int)<=((32:Nat):Int) from dM) (show ¬((16:Int)=((32:Nat):Int)) from dM)))) hK ?_;refine jI ?_;have xf7:(T0.take 16).length=16:=(by simp[nD]);refine⟨dm (T0.take 16) .any,s,?_,ie,rfl,rfl⟩;unfold dm;rw[xf7];exact AV.fc
def DJ(key dt beside text:List UInt8):List UInt8:=if key.length=48∧dt.length=16 then Aes.iF key dt beside text else[]
def DK(key dt:List UInt8):Nat:=if key.length=48∧dt.length=16 then 0 else 2
def Zt(key dt beside z:List UInt8):List UInt8:=if key.length=48∧dt.length=16 then nW key dt beside z else[]
def Zu(key dt beside z:List UInt8):Nat:=if key.length=48∧dt.length=16 then nX key dt beside z else 2
theorem tL(key dt beside text:List UInt8):(Aes.iF key dt beside text).length=text.length+16:=by
 rw[Aes.iF,ah,Aes.mX,Aes.pb]
theorem M3(jg:Γ 0=jZ Sha.H0)(hG:Γ 1=Sha.K.map wV)(key dt beside text:List UInt8)(hb:beside.length<=2^30)(ht:text.length<=2^30)(s:AS):
  aI prog Γ 155 [dm key .any,dm dt .any,dm beside .any,dm text .any] s (.ka [dm (DJ key dt beside text) .any,.v (.int .i64 ((DK key dt:Nat):Int))]):=by
 refine xH func155 ntmps155 results155 ?_;refine Q1 fun K hK K hK=>?_;refine b6 (BF key dt _) ?_;rintro r s1 ⟨rfl,rfl⟩;by_cases hf:key.length=48∧dt.length=16
 ·have h1:DJ key dt beside text=Aes.iF key dt beside text:=(by unfold DJ;rw[if_pos hf]);have h2:DK key dt=0:=(by unfold DK;rw[if_pos hf]);rw[dT hf];obtain⟨hk,hn⟩:=hf;refine jR hK ?_;clear hK K;refine gW ?_;refine hK _ _ ?_;clear hK K;have vP:=Aes.mX key dt text;have nD:=Aes.pb key dt beside (Aes.mask key dt text);have c1:=fun s=>DH (Γ:=Γ) key dt text hk hn ht s;have c2:=fun s=>DI (Γ:=Γ) jg hG key dt beside (Aes.mask key dt text) hk hn hb oM s;have Ph:Aes.iF key dt beside text=Aes.mask key dt text++Aes.tag key dt beside (Aes.mask key dt text):=rfl;have c3:=fun s=>qj (Γ:=Γ) [Aes.mask key dt text,Aes.tag key dt beside (Aes.mask key dt text)] .new sM (by simp;omega) s;rw[show[Aes.mask key dt text,Aes.tag key dt beside (Aes.mask key dt text)].flatten=Aes.iF key dt beside text from by rw[Ph];simp,M4] at c3;have wY:=tL key dt beside text;clear Ph;generalize Aes.iF key dt beside text=S0 at *
  generalize Aes.tag key dt beside (Aes.mask key dt text)=T0 at *
  generalize Aes.mask key dt text=M at *
  refine jK (c1 _) ?_;rintro s2 rfl;refine wS fun K hK=>?_;simp only[↓DN,Qa,Qb,Qc,Qd,Qe,Qf,Qg,Qh,seval,TT,au,bY];refine b6 (c2 _) ?_;rintro r s3 ⟨rfl,rfl⟩;simp only[↓DM,eZ,DX,↓DN,Qa,Qb,Qc,Qd,Qe,Qf,Qg,Qh,seval,TT,au,bY];refine b6 (c3 _) ?_;intro r s4 eU;have hw:=eU.dV;have hle:=eU.1;obtain⟨t,e,rfl⟩:=gD eU (by rw[<-bX,wY];omega);refine jR hK ?_;clear hK K;refine jI ?_;rw[h1,h2];exact⟨_,s3,AV.gJ hw (AV.dV.refl _),hle,rfl,rfl⟩
 ·have h1:DJ key dt beside text=[]:=(by unfold DJ;rw[if_neg hf]);have h2:DK key dt=2:=(by unfold DK;rw[if_neg hf]);rw[dF hf];refine jR hK ?_;refine mS ?_;rw[h1,h2];exact⟨_,_,AV.gJ AV.eh (AV.dV.refl _),AS.le.refl _,rfl,rfl⟩
theorem Cb(jg:Γ 0=jZ Sha.H0)(hG:Γ 1=Sha.K.map wV)(key dt beside z:List UInt8)(hb:beside.length<=2^30)(hz:z.length<=2^30)(s:AS):
  aI prog Γ 174 [dm key .any,dm dt .any,dm beside .any,dm z .any] s (.ka [dm (Zt key dt beside z) .any,.v (.int .i64 ((Zu key dt beside z:Nat):Int))]):=by
 refine xH func174 ntmps174 results174 ?_;have tM:gR .i64 (z.length:Int) 16=(z.length:Int)-16:=fD oM;refine jA ?_;refine jB @tM ?_;refine nF fun K hK=>?_;refine jQ fun K hK=>?_;refine b6 (BF key dt _) ?_;rintro r s1 ⟨rfl,rfl⟩;by_cases hf:key.length=48∧dt.length=16
 ·have h1:Zt key dt beside z=nW key dt beside z:=(by unfold Zt;rw[if_pos hf]);have h2:Zu key dt beside z=nX key dt beside z:=(by unfold Zu;rw[if_pos hf]);rw[dT hf];obtain⟨hk,hn⟩:=hf;refine jR hK ?_;clear hK K;refine jF ?_;by_cases VR:z.length<16
  ·have h3:nW key dt beside z=[]:=(by unfold nW;rw[if_pos VR]);have h4:nX key dt beside z=10:=(by unfold nX;rw[if_pos VR]);refine jB (dT (show(z.length:Int)-16<0 by omega)) ?_;refine mS ?_;rw[h1,h2,h3,h4];exact⟨_,_,AV.gJ AV.eh (AV.dV.refl _),AS.le.refl _,rfl,rfl⟩
  ·have xf8:(z.length:Int)-16=((z.length-16:Nat):Int):=oM;have htz:aX z.length (z.map cU)=z.map cU:=af sM;have m0:(0:Int)<=((z.length-16:Nat):Int):=oM;have m1:((z.length-16:Nat):Int)<=(z.length:Int):=oM;have m2:(z.length:Int)<=(z.length:Int):=Int.le_refl _;have m3:z.length-(z.length-16)=16:=oM;rw[xf8];have nD:(z.take (z.length-16)).length=z.length-16:=(by rw[List.length_take];omega);have LG:(z.drop (z.length-16)).length=16:=(by rw[bZ];omega);have c2:=fun s=>DI (Γ:=Γ) jg hG key dt beside (z.take (z.length-16)) hk hn hb oM s;have c1:=fun s=>DH (Γ:=Γ) key dt (z.take (z.length-16)) hk hn oM s;have c4:=fun s=>M5 (Γ:=Γ) (Aes.tag key dt beside (z.take (z.length-16))) (z.drop (z.length-16)) (by rw[Aes.pb];decide) s;have Zv:aX z.length z=z:=List.take_length;unfold dm at c1 c2 c4;rw[nD] at c1 c2;rw[LG] at c4;refine jB (dF (show ¬((z.length-16:Nat):Int)<0 by omega)) ?_;refine jF<|eB T.mixed [6,10] kM ?_;intro K hK;simp only[↓DM,eZ,DX,↓DN,Qa,Qb,Qc,Qd,Qe,Qf,Qg,Qh,seval,TT,m0,m1,m2,m3,htz,Zv];refine b6 (c2 _) ?_;rintro r s2 ⟨rfl,rfl⟩;simp only[↓DM,eZ,DX,↓DN,Qa,Qb,Qc,Qd,Qe,Qf,Qg,Qh,seval,TT,m0,m1,m2,m3,htz,Zv];refine b6 (c4 _) ?_;rintro r s3 ⟨rfl,rfl⟩;by_cases ht:Aes.tag key dt beside (z.take (z.length-16))=z.drop (z.length-16)
   ·have h3:nW key dt beside z=Aes.mask key dt (z.take (z.length-16)):=(by unfold nW;rw[if_neg VR,if_pos ht]);have h4:nX key dt beside z=0:=(by unfold nX;rw[if_neg VR,if_pos ht]);rw[dT ht];refine jR hK ?_;clear hK K;refine gW ?_;simp only[dn,dJ,if_true,if_false];refine hK _ _ ?_;clear hK K;refine wS fun K hK=>?_;simp only[↓DN,Qa,Qb,Qc,Qd,Qe,Qf,Qg,Qh,seval,TT,m0,m1,m2,m3,htz,Zv];refine b6 (c1 _) ?_;rintro r s4 ⟨rfl,rfl⟩;refine jR hK ?_;clear hK K;refine jI ?_;rw[h1,h2,h3,h4];exact jW ⟨rfl,rfl⟩
   ·have h3:nW key dt beside z=[]:=(by unfold nW;rw[if_neg VR,if_neg ht]);have h4:nX key dt beside z=14:=(by unfold nX;rw[if_neg VR,if_neg ht]);rw[dF ht];refine jR hK ?_;clear hK K;refine mS ?_;rw[h1,h2,h3,h4];exact⟨_,_,AV.gJ AV.eh (AV.dV.refl _),AS.le.refl _,rfl,rfl⟩
 ·have h1:Zt key dt beside z=[]:=(by unfold Zt;rw[if_neg hf]);have h2:Zu key dt beside z=2:=(by unfold Zu;rw[if_neg hf]);rw[dF hf];refine jR hK ?_;refine mS ?_;rw[h1,h2];exact⟨_,_,AV.gJ AV.eh (AV.dV.refl _),AS.le.refl _,rfl,rfl⟩
theorem DL(key dt beside text:List UInt8):nW key dt beside (Aes.iF key dt beside text)=text:=by
  have hl:=tL key dt beside text;unfold nW;rw[if_neg oM];have vP:=Aes.mX key dt text;have e1:(Aes.iF key dt beside text).take ((Aes.iF key dt beside text).length-16)=Aes.mask key dt text:=by
    rw[hl,Aes.iF,dj,dv oM,af oM]
  have e2:(Aes.iF key dt beside text).drop ((Aes.iF key dt beside text).length-16)=Aes.tag key dt beside (Aes.mask key dt text):=by
    rw[hl,Aes.iF,dj,List.drop_append_of_le_length oM,cE oM,aG]
  rw[e1,e2,if_pos rfl,Aes.P4]
theorem DP(key dt beside text:List UInt8):nX key dt beside (Aes.iF key dt beside text)=0:=by
  have hl:=tL key dt beside text;unfold nX;rw[if_neg oM];have vP:=Aes.mX key dt text;have e1:(Aes.iF key dt beside text).take ((Aes.iF key dt beside text).length-16)=Aes.mask key dt text:=by
    rw[hl,Aes.iF,dj,dv oM,af oM]
  have e2:(Aes.iF key dt beside text).drop ((Aes.iF key dt beside text).length-16)=Aes.tag key dt beside (Aes.mask key dt text):=by
    rw[hl,Aes.iF,dj,List.drop_append_of_le_length oM,cE oM,aG]
  rw[e1,e2,if_pos rfl]
theorem xK(n:Nat)(hn:n<2^64)(s:AS):aI prog Γ 182 [.v (.int .u64 n)] s (.v (.int .u64 (n%PP:Nat))):=by
 refine xH func182 ntmps182 results182 ?_;refine xKo fun K hK=>?_;have hf:=MW n hn;unfold HU at hf;simp only at hf;refine jA ?_;by_cases hc:(2305843009213693951:Int)<=iY .u64 (rG .u64 n 2305843009213693951) (kE .u64 n 61)
 ·rw[if_pos hc] at hf;refine xY @hc<|jC ?_;refine hK _ _ ?_;clear hK K;refine wq ?_;exact jW ⟨by rw[hf],rfl⟩
 ·rw[if_neg hc] at hf;refine xZ @hc<|dX<|hK _ _<|wq ?_;exact jW ⟨by rw[hf],rfl⟩
theorem Kg(x y:Nat)(hx:x<2^64)(hy:y<2^64)(s:AS):aI prog Γ 181 [.v (.int .u64 x),.v (.int .u64 y)] s (.ka [.v (.int .u64 (x*y/18446744073709551616:Nat)),.v (.int .u64 (x*y%18446744073709551616:Nat))]):=by
 refine xH func181 ntmps181 results181 ?_;refine xKp ?_;refine Zi ?_;refine jI ?_;refine jW ⟨?_,rfl⟩;have x1:x/4294967296<4294967296:=oM;have y1:y/4294967296<4294967296:=oM;have x0:x%4294967296<4294967296:=oM;have y0:y%4294967296<4294967296:=oM;have b1:=yU x1 y1;have b2:=yU x1 y0;have b3:=yU x0 y1;have b4:=yU x0 y0;have key:=Sg _ _ _ _ x1 x0 y1 y0;rw[show x/4294967296*4294967296+x%4294967296=x from oM,show y/4294967296*4294967296+y%4294967296=y from oM] at key;rw[AD x hx,AD y hy,sL,sL,CA _ _ (by omega:x%4294967296*(y%4294967296)<2^64),CA _ _ (by omega:x/4294967296*(y%4294967296)<2^64),
  CA _ _ (by omega:x%4294967296*(y/4294967296)<2^64),CA _ _ (by omega:x/4294967296*(y/4294967296)<2^64),Sh,sL]
 generalize x/4294967296*(y/4294967296)=A at *
 generalize x/4294967296*(y%4294967296)=B at *
 generalize x%4294967296*(y/4294967296)=C at *
 generalize x%4294967296*(y%4294967296)=D at *
 rw[rY _ _ (by omega:B+D/4294967296<2^64),AD _ oM,rY _ _ (by omega:(B+D/4294967296)%4294967296+C<2^64),sL,sL,rY _ _ oM,rY _ _ oM,key]
theorem Gu(a b:Nat)(ha:a<2^64)(hb:b<2^64)(s:AS):aI prog Γ 147 [.v (.int .u64 a),.v (.int .u64 b)] s (.v (.int .u64 (a*b%PP:Nat))):=by
 refine xH func147 ntmps147 results147 ?_;have l1:=gX a;have l2:=gX b;have l3:=Ke;have l4:=Si a b;refine jA ?_;refine jQ fun K hK=>?_;refine b6 (xK a ha s) ?_;rintro r s' ⟨rfl,rfl⟩;refine jM ?_;refine b6 (xK b hb s') ?_;rintro r s' ⟨rfl,rfl⟩;refine jM ?_;refine b6 (Kg (a%PP) (b%PP) oM oM s') ?_;rintro r s' ⟨rfl,rfl⟩;refine jR hK ?_;refine jS (VM _ l4) fun K hK=>?_;refine b6 (xK (a%PP*(b%PP)%2305843009213693952+a%PP*(b%PP)/2305843009213693952) oM s') ?_;rintro r s' ⟨rfl,rfl⟩;refine jR hK ?_;refine jI ?_;exact jW ⟨by rw[PW,<-cZ],rfl⟩
theorem Gv(a n:Nat)(ha:a<2^64)(hn:n<2^64)(s:AS):aI prog Γ 103 [.v (.int .u64 a),.v (.int .u64 n)] s (.v (.int .u64 (a^n%PP:Nat))):=by
 refine xH func103 ntmps103 results103 ?_;refine xKo fun K hK=>?_;refine dH<|dU (fun E s1=>∃o b m:Nat,E 5=.v (.int .u64 o)∧E 0=.v (.int .u64 b)∧E 1=.v (.int .u64 m)∧o<PP∧b<2^64∧m<2^64∧o*b^m%PP=a^n%PP∧s1=s)
  (fun E _=>match E 1 with |.v (.int _ i)=>i.toNat|_=>0) ?_ ?_
 ·exact⟨1,a,n,by simp[dY],by simp[dY,eV],by simp[dY,eV],dM,ha,hn,sM,rfl⟩
 ·rintro E1 s1 ⟨o,b,m,h5,h0,h1,ho,hb,hm,hinv,rfl⟩ -
  have hPP:PP=2305843009213693951:=rfl;refine wK fun K2 eH=>?_;by_cases zZ:m=0
  ·subst zZ;refine jB (Ai @h5 (Ai @h0 (Ai @h1 (Ai @du @Int.lt_irrefl)))) ?_;refine sI ?_;simp only[dJ,dn,if_true];refine hK _ _ ?_;clear hK eH K K2;refine jB @h5 ?_;refine jI ?_;refine jW ⟨?_,rfl⟩;rw[<-hinv];simp[aN ho]
  ·have Al:(0:Int)<m:=oM;refine jB (Ai @h5 (Ai @h0 (Ai @h1 @Al))) ?_;refine ue ?_;refine eH _ _<|nF fun K3 eX=>?_;refine wK fun K4 jm=>?_;have hand:rG .u64 (m:Int) 1=((m%2:Nat):Int):=by
    have:=xu (k:=.u64) rfl m 1 hm dM;rw[Nat.and_one_is_mod] at this;exact this
   have xga:kE .u64 (m:Int) 1=((m/2:Nat):Int):=by
    have:=nq (k:=.u64) m 1;simpa[aC] using this
   have XS:∀(E2:Env)(o2:Nat),E2 5=.v (.int .u64 o2)->E2 0=.v (.int .u64 b)->E2 1=.v (.int .u64 m)->o2<PP->o2*(b*b%PP)^(m/2)%PP=a^n%PP->K4 E2 s1:=by
    intro E2 o2 e5 e0 e1 tj sP;refine jm _ _<|jU @e0 fun K hK=>?_;refine b6 (Gu b b hb hb s1) ?_;rintro r s' ⟨rfl,rfl⟩;refine jR hK ?_;refine eX _ _<|jD (Ai @e1 @xga) ?_;have LI:b*b%PP<PP:=gX _;refine⟨⟨o2,b*b%PP,m/2,e5,rfl,rfl,tj,oM,oM,sP,rfl⟩,?_⟩;simp only[h1,dY,↓reduceIte];omega
   by_cases vw:m%2=1
   ·refine jB (Ai @h5 (Ai @h0 (Ai @h1 (Ai @hand (Ai @vw @Int.natCast_one))))) ?_;refine jE<|jU (Ai @h5 @h0) fun K hK=>?_;refine b6 (Gu o b oM hb s1) ?_;rintro r s' ⟨rfl,rfl⟩;refine jR hK ?_;refine XS _ (o*b%PP) rfl h0 h1 (gX _) ?_;rw[<-hinv];have e:b^m=b*(b*b)^(m/2):=by
     have :m=2*(m/2)+1:=oM;conv=>lhs;rw[this,bW,Nat.pow_mul,Nat.pow_two,Nat.mul_comm]
    rw[e,<-cB,cZ,Nat.mod_mod,<-dA,<-cZ]
   ·have vx:m%2=0:=oM;refine wS fun K hK=>?_;simp only[↓DN,Qa,Qb,Qc,Qd,Qe,Qf,Qg,Qh,seval,TT,h5,h0,h1,hand,vx,du,Int.reduceBEq,Bool.false_eq_true];refine hK _ _<|gW ?_;refine XS _ o h5 h0 h1 ho ?_;rw[<-hinv];have e:b^m=(b*b)^(m/2):=by
     have :m=2*(m/2):=oM;conv=>lhs;rw[this,Nat.pow_mul,Nat.pow_two]
    rw[e,cZ,<-dA,<-cZ]
theorem y7:((0:Int)==1)=false:=rfl
theorem Kh(m:Nat)(hm:m<2^64):nn .u64 (m:Int) 2=((m/2:Nat):Int):=Rn rfl m 2 hm
theorem Ki(n:Nat):mG (n:Int) 2305843009213693951=((n%PP:Nat):Int):=mI n 2305843009213693951
theorem HY(n:Nat):mG (n:Int) 2=((n%2:Nat):Int):=mI n 2
theorem y8(a b:Nat)(ha:a<2^64)(hb:b<2^64)(s:AS):aI prog Γ 126 [.v (.int .u64 a),.v (.int .u64 b)] s (.v (.int .u64 (a*b%PP:Nat))):=by
 have hPP:PP=2305843009213693951:=rfl;refine xH func126 ntmps126 results126 ?_;refine jA ?_;refine jB @Ki ?_;refine jB @Ki ?_;refine yd fun K hK=>?_;refine dH<|dU (fun E s1=>∃o b' m:Nat,E 5=.v (.int .u64 o)∧E 0=.v (.int .u64 b')∧E 1=.v (.int .u64 m)∧o<PP∧b'<PP∧m<2^64∧(o+b'*m)%PP=a*b%PP∧s1=s)
  (fun E _=>match E 1 with |.v (.int _ i)=>i.toNat|_=>0) ?_ ?_
 ·exact⟨0,a%PP,b%PP,by simp[dY],by simp[dY],by simp[dY],dM,gX _,by have:=gX b;omega,by rw[Nat.zero_add,<-cZ],rfl⟩
 ·rintro E1 s1 ⟨o,b',m,h5,h0,h1,ho,RH,hm,hinv,rfl⟩ -
  refine wK fun K2 eH=>?_;by_cases zZ:m=0
  ·subst zZ;refine jB (Ai @h5 (Ai @h0 (Ai @h1 (Ai @du @Int.lt_irrefl)))) ?_;refine sI ?_;simp only[dJ,dn,if_true];refine hK _ _ ?_;clear hK eH K K2;refine jB @h5 ?_;refine jI ?_;refine jW ⟨?_,rfl⟩;rw[<-hinv];simp[aN ho]
  ·have Al:(0:Int)<m:=oM;refine jB (Ai @h5 (Ai @h0 (Ai @h1 @Al))) ?_;refine ue ?_;refine eH _ _<|dH<|wK fun K4 jm=>?_;have XS:∀(E2:Env)(o2:Nat),E2 5=.v (.int .u64 o2)->E2 0=.v (.int .u64 b')->E2 1=.v (.int .u64 m)->o2<PP->(o2+(b'+b')%PP*(m/2))%PP=a*b%PP->K4 E2 s1:=by
    intro E2 o2 e5 e0 e1 tj sP;refine jm _ _<|jB (Ai @e0 (Ai (rY b' b' oM) @Ki)) ?_;refine jD (Ai @e1 (Kh m hm)) ?_;have LI:(b'+b')%PP<PP:=gX _;refine⟨⟨o2,(b'+b')%PP,m/2,e5,rfl,rfl,tj,oM,oM,sP,rfl⟩,?_⟩;simp only[h1,dY,↓reduceIte];omega
   by_cases vw:m%2=1
   ·refine jB (Ai @h5 (Ai @h0 (Ai @h1 (Ai @HY (Ai @vw @Int.natCast_one))))) ?_;refine jE<|jD (Ai @h5 (Ai @h0 (Ai (rY o b' oM) @Ki))) ?_;refine XS _ ((o+b')%PP) rfl h0 h1 (gX _) ?_;rw[<-hinv];have e:b'*m=b'+(b'+b')*(m/2):=by
     have :m=2*(m/2)+1:=oM;conv=>lhs;rw[this]
     rw[Nat.mul_add,Nat.mul_one,<-cB,Nat.mul_two,Nat.add_comm]
    rw[e,<-Nat.add_assoc,Nat.add_mod,Nat.mod_mod,Nat.mod_mul_mod,<-Nat.add_mod]
   ·have vx:m%2=0:=oM;refine jB (Ai @h5 (Ai @h0 (Ai @h1 (Ai @HY (Ai @vx (Ai @du @y7)))))) ?_;refine xZ @y7<|dX<|XS _ o h5 h0 h1 ho ?_;rw[<-hinv];have e:b'*m=(b'+b')*(m/2):=by
     have :m=2*(m/2):=oM;conv=>lhs;rw[this]
     rw[<-cB,Nat.mul_two]
    rw[e,Nat.add_mod,Nat.mod_mul_mod,<-Nat.add_mod]
theorem y9(a n:Nat)(ha:a<2^64)(hn:n<2^64)(s:AS):aI prog Γ 68 [.v (.int .u64 a),.v (.int .u64 n)] s (.v (.int .u64 (a^n%PP:Nat))):=by
 have hPP:PP=2305843009213693951:=rfl;refine xH func68 ntmps68 results68 ?_;refine Zi ?_;refine jB @Ki ?_;refine nF fun K hK=>?_;refine dU (fun E s1=>∃o b m:Nat,E 5=.v (.int .u64 o)∧E 0=.v (.int .u64 b)∧E 1=.v (.int .u64 m)∧o<PP∧b<2^64∧m<2^64∧o*b^m%PP=a^n%PP∧s1=s)
  (fun E _=>match E 1 with |.v (.int _ i)=>i.toNat|_=>0) ?_ ?_
 ·exact⟨1,a%PP,n,by simp[dY],by simp[dY],by simp[dY,eV],dM,by have:=gX a;omega,hn,by rw[Nat.one_mul,<-dA],rfl⟩
 ·rintro E1 s1 ⟨o,b,m,h5,h0,h1,ho,hb,hm,hinv,rfl⟩ -
  refine wK fun K2 eH=>?_;by_cases zZ:m=0
  ·subst zZ;refine jB (Ai @h5 (Ai @h0 (Ai @h1 (Ai @du @Int.lt_irrefl)))) ?_;refine sI ?_;simp only[dJ,dn,if_true];refine hK _ _ ?_;clear hK eH K K2;refine jB @h5 ?_;refine jI ?_;refine jW ⟨?_,rfl⟩;rw[<-hinv];simp[aN ho]
  ·have Al:(0:Int)<m:=oM;refine jB (Ai @h5 (Ai @h0 (Ai @h1 @Al))) ?_;refine ue ?_;refine eH _ _<|dH<|wK fun K4 jm=>?_;have XS:∀(E2:Env)(o2:Nat),E2 5=.v (.int .u64 o2)->E2 0=.v (.int .u64 b)->E2 1=.v (.int .u64 m)->o2<PP->o2*(b*b%PP)^(m/2)%PP=a^n%PP->K4 E2 s1:=by
    intro E2 o2 e5 e0 e1 tj sP;refine jm _ _<|jS @e0 fun K hK=>?_;refine b6 (y8 b b hb hb s1) ?_;rintro r s' ⟨rfl,rfl⟩;refine jR hK ?_;refine jD (Ai @e1 (Kh m hm)) ?_;have LI:b*b%PP<PP:=gX _;refine⟨⟨o2,b*b%PP,m/2,e5,rfl,rfl,tj,oM,oM,sP,rfl⟩,?_⟩;simp only[h1,dY,↓reduceIte];omega
   by_cases vw:m%2=1
   ·refine jB (Ai @h5 (Ai @h0 (Ai @h1 (Ai @HY (Ai @vw @Int.natCast_one))))) ?_;refine jE<|jU (Ai @h5 @h0) fun K hK=>?_;refine b6 (y8 o b oM hb s1) ?_;rintro r s' ⟨rfl,rfl⟩;refine jR hK ?_;refine XS _ (o*b%PP) rfl h0 h1 (gX _) ?_;rw[<-hinv];have e:b^m=b*(b*b)^(m/2):=by
     have :m=2*(m/2)+1:=oM;conv=>lhs;rw[this,bW,Nat.pow_mul,Nat.pow_two,Nat.mul_comm]
    rw[e,<-cB,cZ,Nat.mod_mod,<-dA,<-cZ]
   ·have vx:m%2=0:=oM;refine jB (Ai @h5 (Ai @h0 (Ai @h1 (Ai @HY (Ai @vx (Ai @du @y7)))))) ?_;refine xZ @y7<|dX<|XS _ o h5 h0 h1 ho ?_;rw[<-hinv];have e:b^m=(b*b)^(m/2):=by
     have :m=2*(m/2):=oM;conv=>lhs;rw[this,Nat.pow_mul,Nat.pow_two]
    rw[e,cZ,<-dA,<-cZ]
def xL:List UInt8:=[107,101,121]
def gp(x:List UInt8):Nat:=1+nB (Kdf.label x xL [] 8)%2305843009213693949
theorem Kj:Kdf.fits xL [] 8=true:=dM
theorem wZ(x:List UInt8):(Kdf.label x xL [] 8).length=8:=by
 rw[Kdf.label,Kj,if_pos rfl];exact Kdf.ns _ _ _
theorem wc(x:List UInt8):gp x<2305843009213693950:=by unfold gp;omega
theorem rZ(n:Nat):iY .u64 1 (mG (n:Int) 2305843009213693949)=((1+n%2305843009213693949:Nat):Int):=by
 have h:mG (n:Int) 2305843009213693949=((n%2305843009213693949:Nat):Int):=mI n 2305843009213693949;rw[h];exact rY 1 _ oM
theorem xgb(l:List UInt8)(h:l.length=8):(oG 8 (l,0)).1=nB l:=by
 have e:aX 8 l=l:=af oM;simp[oG,jr,h,e]
theorem pQ(n:Nat)(hn:n<2^64)(s:AS):aI prog Γ 187 [.v (.int .u64 n)] s (dm (be 8 n) .any):=by
 refine xH func187 ntmps187 results187 ?_;refine jA ?_;refine jQ fun K hK=>?_;refine b6 (v8 s) ?_;rintro r s1 ⟨p,rfl,hp⟩;refine jR hK ?_;refine jQ fun K hK=>?_;refine b6 (ql s s1 p ([],false) n hn sM hp) ?_;rintro r s2 ⟨rfl,Dt⟩;refine jR hK ?_;have Sw:jX 8 n ([],false)=(be 8 n,false):=(by simp[jX]);rw[Sw] at Dt;refine jK (nY s s2 p _ sM Dt) ?_;rintro s3 rfl;refine wq ?_;exact⟨_,s,AV.dV.refl _,Dt.le,rfl,rfl⟩
theorem tN(jg:Γ 0=jZ Sha.H0)(hG:Γ 1=Sha.K.map wV)(x:List UInt8)(hx:x.length<=2^36)(s:AS):aI prog Γ 41 [dm x .any] s (.v (.int .u64 (gp x))):=by
 refine xH func41 ntmps41 results41 ?_;have hlen:=wZ x;have vy:=px (Γ:=Γ) jg hG x xL [] 8 hx dM dM dM s;have pR:gp x=1+nB (Kdf.label x xL [] 8)%2305843009213693949:=rfl;generalize gp x=k at *
 generalize Kdf.label x xL [] 8=l at *
 refine jA ?_;refine jK (dS.mB (kj.dV.cons (AV.dV.refl _) (kj.dV.cons (AV.dV.refl _) (kj.dV.cons (AV.eh (sz:=1)) (kj.dV.refl _)))) vy) ?_;rintro s1 rfl;refine jQ fun K hK=>?_;refine b6 (xI l s1 oM) ?_;rintro r s2 ⟨p,rfl,hp⟩;refine jM ?_;refine b6 (HZ s1 s2 p _ hp) ?_;rintro r s3 ⟨rfl,hp3⟩;rw[xgb l hlen];refine jV @rZ hK ?_;refine jI ?_;rw[pR,rZ];exact⟨_,s1,AV.dV.refl _,hp3.le,rfl,rfl⟩
theorem nZ(x:List UInt8)(hx:x.length<=2^36)(s:AS):aI prog Γ 18 [.v (.string ⟨x.toArray⟩)] s (.v (.int .u64 (gp x))):=by
 refine xH func18 ntmps18 results18 ?_;have hlen:=wZ x;have vy:=lS (Γ:=Γ) x xL [] 8 hx Kj s;have pR:gp x=1+nB (Kdf.label x xL [] 8)%2305843009213693949:=rfl;generalize gp x=k at *
 generalize Kdf.label x xL [] 8=l at *
 refine jA ?_;refine jQ fun K hK=>?_;refine b6 vy ?_;rintro r s1 ⟨rfl,rfl⟩;refine jM ?_;refine b6 (BA l oM s1) ?_;rintro r s2 ⟨rfl,rfl⟩;refine jV @rZ hK ?_;refine jI ?_;rw[pR,rZ];exact jW ⟨rfl,rfl⟩
theorem kW(k:Nat)(hk:k<2^64)(s:AS):aI prog Γ 43 [.v (.int .u64 k)] s (.v (.int .u64 (3^k%PP:Nat))):=by
 refine xH func43 ntmps43 results43 ?_;have h:=Gv (Γ:=Γ) 3 k dM hk s;generalize 3^k%PP=A at *
 refine jA ?_;refine jK h ?_;rintro s1 rfl;exact jJ
theorem lD(k:Nat)(hk:k<2^64)(s:AS):aI prog Γ 19 [.v (.int .u64 k)] s (.v (.int .u64 (3^k%PP:Nat))):=by
 refine xH func19 ntmps19 results19 ?_;have h:=y9 (Γ:=Γ) 3 k dM hk s;generalize 3^k%PP=A at *
 refine jA ?_;refine jK h ?_;rintro s1 rfl;exact jJ
theorem n6(n:Nat)(hn:n<2^64)(s:AS):aI prog Γ 167 [.v (.int .u64 n)] s (.v (.string ⟨(be 8 n).toArray⟩)):=by
 refine xH func167 ntmps167 results167 ?_;refine jA ?_;refine jK (fU n 8 hn oM s) ?_;rintro s1 rfl;exact jJ
theorem uk(k p:Nat)(hk:k<2^64)(hp:p<2^64)(s:AS):aI prog Γ 154 [.v (.int .u64 k),.v (.int .u64 p)] s (dm (be 8 (p^k%PP)) .any):=by
 refine xH func154 ntmps154 results154 ?_;have h:=Gv (Γ:=Γ) p k hp hk s;have hl:p^k%PP<2^64:=(by have:=gX (p^k);have:=Ke;omega);generalize p^k%PP=A at *
 refine jA ?_;refine jQ fun K hK=>?_;refine b6 h ?_;rintro r s1 ⟨rfl,rfl⟩;refine jM ?_;refine b6 (pQ A hl s1) ?_;rintro r s2 ⟨rfl,rfl⟩;refine jR hK ?_;exact jJ
theorem za(k p:Nat)(hk:k<2^64)(hp:p<2^64)(s:AS):aI prog Γ 119 [.v (.int .u64 k),.v (.int .u64 p)] s (.v (.string ⟨(be 8 (p^k%PP)).toArray⟩)):=by
 refine xH func119 ntmps119 results119 ?_;have h:=y9 (Γ:=Γ) p k hp hk s;have hl:p^k%PP<2^64:=(by have:=gX (p^k);have:=Ke;omega);generalize p^k%PP=A at *
 refine jA ?_;refine jQ fun K hK=>?_;refine b6 h ?_;rintro r s1 ⟨rfl,rfl⟩;refine jM ?_;refine b6 (n6 A hl s1) ?_;rintro r s2 ⟨rfl,rfl⟩;refine jR hK ?_;exact jJ
end Go.Proofs.YtbiefppedlodiaaGreatDoor
namespace Go.AM
namespace Hpke
def xL:List UInt8:=[107,101,121]
def AJ:List UInt8:=[110,111,110,99,101]
def pm:Nat->Nat->Nat->Nat
  |0,_,_=>1
  |f+1,a,n=>if n%2=1 then a*pm f (a*a%PP) (n/2)%PP else pm f (a*a%PP) (n/2)
theorem Kk:∀(f a n:Nat),n<2^f->pm f a n%PP=a^n%PP
  |0,a,n,h=>by
    obtain rfl:n=0:=(by simpa using h);rfl
  |f+1,a,n,h=>by
    have ih:=Kk f (a*a%PP) (n/2) (by rw[bW] at h;omega);have e:a^n=a^(n%2)*(a*a)^(n/2):=by
      conv=>lhs;rw[<-Nat.div_add_mod n 2]
      rw[Nat.pow_add,Nat.pow_mul,Nat.mul_comm,Nat.pow_two]
    rw[<-dA] at ih;rw[pm];split
    · rename_i h1;rw[e,h1,Nat.pow_one,Nat.mod_mod,cZ,ih,<-cZ]
    · rename_i h1;have h0:n%2=0:=oM;rw[e,h0,Nat.pow_zero,Nat.one_mul,ih]
def sec(shared ot to:Nat):List UInt8:=Mac.tag [] (be 8 shared++(be 8 ot++be 8 to))
def hk(s info:List UInt8):List UInt8:=Kdf.label s xL info 48
def hn(s info:List UInt8):List UInt8:=Kdf.label s AJ info 16
def ld:List UInt8:=[58,81,223,243,45,240,153,21]
def ki:List UInt8:=[6,141,179,206,59,220,75,205,198,77,58,67,99,194,233,122,153,41,163,200,98,168,177,210,181,231,29,134,148,66,107,113,124,242,131,217,24,36,134,132,77,156,59,74,50,173,130,234]
def m0:List UInt8:=[144,78,103,61]
def t0:List UInt8:=[114,25,121,18,165,57,11,147,19,26,64,233,1,176,44,69]
end Hpke
end Go.AM
namespace Go.Proofs.YtbiefppedlodiaaGreatDoor
open Go Go.AM Go.Proofs Tryz
variable{Γ:Nat->List AV}
theorem AK(info:List UInt8)(h:info.length<=60000):Kdf.fits Hpke.xL info 48=true:=by
 simp[Kdf.fits,Hpke.xL];omega
theorem vz(info:List UInt8)(h:info.length<=60000):Kdf.fits Hpke.AJ info 16=true:=by
 simp[Kdf.fits,Hpke.AJ];omega
theorem M6(s info:List UInt8)(h:info.length<=60000):(Hpke.hk s info).length=48:=by
 rw[Hpke.hk,Kdf.label,AK info h,if_pos rfl];exact Kdf.ns _ _ _
theorem M7(s info:List UInt8)(h:info.length<=60000):(Hpke.hn s info).length=16:=by
 rw[Hpke.hn,Kdf.label,vz info h,if_pos rfl];exact Kdf.ns _ _ _
theorem Ow(a b c:Nat):(Hpke.sec a b c).length=32:=Mac.pb _ _
theorem Sx(a b c:Nat):Mac.tag [] ([be 8 a,be 8 b,be 8 c].flatten)=Hpke.sec a b c:=by
 rw[Hpke.sec];simp
theorem BG(jg:Γ 0=jZ Sha.H0)(hG:Γ 1=Sha.K.map wV)(a b c:Nat)(info:List UInt8)(hb:b<2^64)(hc:c<2^64)(hi:info.length<=60000)(s:AS):
  aI prog Γ 153 [dm (be 8 a) .any,.v (.int .u64 b),.v (.int .u64 c),dm info .any] s (.ka [dm (Hpke.hk (Hpke.sec a b c) info) .any,dm (Hpke.hn (Hpke.sec a b c) info) .any,.v (.bool true)]):=by
 refine xH func153 ntmps153 results153 ?_;have xb2:∀x:AV,ai 3 x=[x,x,x]:=fun _=>rfl;have Jf:=fun s=>qj (Γ:=Γ) [be 8 a,be 8 b,be 8 c] .new sM sM s;have hex:=fun s=>Fw (Γ:=Γ) jg hG [] ([be 8 a,be 8 b,be 8 c].flatten) sM sM s;rw[Sx] at hex;have uK:([be 8 a,be 8 b,be 8 c].flatten).length=24:=sM;have wY:=Ow a b c;have h1:=fun s=>px (Γ:=Γ) jg hG (Hpke.sec a b c) Hpke.xL info 48 oM dM oM dM s;have h2:=fun s=>px (Γ:=Γ) jg hG (Hpke.sec a b c) Hpke.AJ info 16 oM dM oM dM s;rw[AK info hi] at h1;rw[vz info hi] at h2;change ∀s,dS _ _ _ _ s (fun r s'=>r=.ka [dm (Hpke.hk (Hpke.sec a b c) info) .any,_]∧s'=s) at h1;change ∀s,dS _ _ _ _ s (fun r s'=>r=.ka [dm (Hpke.hn (Hpke.sec a b c) info) .any,_]∧s'=s) at h2;generalize [be 8 a,be 8 b,be 8 c].flatten=F at *
 generalize Hpke.hk (Hpke.sec a b c) info=k at *
 generalize Hpke.hn (Hpke.sec a b c) info=n at *
 generalize Hpke.sec a b c=S at *
 refine jA ?_;refine jQ fun K hK=>?_;refine b6 (pQ b hb _) ?_;rintro r s1 ⟨rfl,rfl⟩;refine jM ?_;refine b6 (pQ c hc _) ?_;rintro r s2 ⟨rfl,rfl⟩;refine jN @xb2 ?_;refine b6 (Jf _) ?_;intro r s3 eU;obtain⟨t,e,rfl⟩:=gD eU (by rw[<-bX,uK];decide);have mi:=eU.1;clear eU;refine jM ?_;refine b6 (dS.mB (kj.dV.cons (AV.eh (sz:=1)) (kj.dV.cons (AV.fc) kj.dV.nil)) (hex _)) ?_;intro r s4 eU;obtain⟨t4,e4,rfl⟩:=gD eU (by rw[<-bX,wY];decide);have ie:=mi.trans eU.1;clear eU;refine jR hK ?_;refine jK (dS.mB (kj.dV.cons (AV.fc) (kj.dV.refl _)) (h1 _)) ?_;rintro s5 rfl;refine jK (dS.mB (kj.dV.cons (AV.fc) (kj.dV.refl _)) (h2 _)) ?_;rintro s6 rfl;refine wq ?_;exact⟨_,_,AV.dV.refl _,ie,rfl,rfl⟩
theorem DQ(a b c:Nat)(info:List UInt8)(hb:b<2^64)(hc:c<2^64)(hi:info.length<=60000)(s:AS):
  aI prog Γ 118 [.v (.string ⟨(be 8 a).toArray⟩),.v (.int .u64 b),.v (.int .u64 c),.v (.string ⟨info.toArray⟩)] s (.ka [.v (.string ⟨(Hpke.hk (Hpke.sec a b c) info).toArray⟩),.v (.string ⟨(Hpke.hn (Hpke.sec a b c) info).toArray⟩)]):=by
 refine xH func118 ntmps118 results118 ?_;have wY:=Ow a b c;have hex:=fun s=>tI (Γ:=Γ) [] (be 8 a++be 8 b++be 8 c) sM sM s;rw[show Mac.tag [] (be 8 a++be 8 b++be 8 c)=Hpke.sec a b c from by rw[Hpke.sec,List.append_assoc]] at hex;have h1:=fun s=>lS (Γ:=Γ) (Hpke.sec a b c) Hpke.xL info 48 oM (AK info hi) s;have h2:=fun s=>lS (Γ:=Γ) (Hpke.sec a b c) Hpke.AJ info 16 oM (vz info hi) s;change ∀s,dS _ _ _ _ s (fun r s'=>r=.v (.string ⟨(Hpke.hk (Hpke.sec a b c) info).toArray⟩)∧s'=s) at h1;change ∀s,dS _ _ _ _ s (fun r s'=>r=.v (.string ⟨(Hpke.hn (Hpke.sec a b c) info).toArray⟩)∧s'=s) at h2;generalize Hpke.hk (Hpke.sec a b c) info=k at *
 generalize Hpke.hn (Hpke.sec a b c) info=n at *
 generalize Hpke.sec a b c=S at *
 have r1:(be 8 a).length+(be 8 b).length<2^62:=sM;have r2:(be 8 a++be 8 b).length+(be 8 c).length<2^62:=sM;have l8:∀n,(be 8 n).length=8:=fun n=>ga 8 n;refine jA ?_;refine jQ fun K hK=>?_;refine b6 (n6 b hb _) ?_;rintro r s1 ⟨rfl,rfl⟩;refine jN (eS r1) ?_;refine b6 (n6 c hc _) ?_;rintro r s2 ⟨rfl,rfl⟩;refine jN (eS r2) ?_;refine b6 (hex _) ?_;rintro r s3 ⟨rfl,rfl⟩;refine jR hK ?_;refine jQ fun K hK=>?_;refine b6 (h1 _) ?_;rintro r s5 ⟨rfl,rfl⟩;refine jM ?_;refine b6 (h2 _) ?_;rintro r s6 ⟨rfl,rfl⟩;refine jR hK ?_;exact jJ
end Go.Proofs.YtbiefppedlodiaaGreatDoor
