/- Contracts of functions, each walked once; each theorem states its conditions. -/
import Derived.Test.YtbiefppedlodiaaGreatDoorAMp6
import Derived.Test.YtbiefppedlodiaaGreatDoorW1
import Derived.Test.YtbiefppedlodiaaGreatDoorW10
import Derived.Test.YtbiefppedlodiaaGreatDoorW7
import Derived.Test.YtbiefppedlodiaaGreatDoorW9
import Derived.Test.YtbiefppedlodiaaGreatDoorAMp7
import Derived.Test.YtbiefppedlodiaaGreatDoorW6
import Derived.Test.YtbiefppedlodiaaGreatDoorW4
import Derived.Test.YtbiefppedlodiaaGreatDoorW2
import Derived.Test.YtbiefppedlodiaaGreatDoorRows
import Derived.ProofKit
import Derived.LaidMore
import Derived.MakeChecks
import Derived.OpenShut
open Char renaming ofNat → Cnn
set_option linter.unusedSimpArgs false
set_option linter.unusedVariables false
open Nat renaming reduceLT → Na, reduceLeDiff → Nb, reduceEqDiff → Nc, reduceAdd → Nk, reduceMul → Nf, reducePow → Ng, reduceSub → Nh, reduceBEq → Nz
open Int renaming reduceLT → Za, reduceLE → Zb, reduceToNat → Zc
open And renaming intro → Ai
open Go.AM renaming ashift → Qa, aconv → Qb, aindexAddr → Qc, aindex → Qd, aslice → Qe, abuiltin → Qf, awp_reg_seq → wS, awp_reg_end → wE, awp_seq_k → wK, awp_cond_k → wC
open Go.AM.AV renaming cells → Qg, one → Qh
set_option maxRecDepth 100000
set_option maxHeartbeats 8000000
namespace Go.Proofs.YtbiefppedlodiaaGreatDoor
open Go Go.AM Go.Proofs Tryz
variable{Γ:Nat→List AV}
def yw:List UInt8:=[108,101,97,102]
def uM(d:List UInt8):Nat:=dd (Kdf.derive d yw)
def kB(d:List UInt8):Nat:=3^uM d%PP
def mj(t:List af)(lf:Nat)(fresh:List Int)(i:Nat):List Int:=bA t (bZ (nodeAt lf (aM t) i):Nat) fresh
def cE(d:List UInt8)(m:Nat):List Nat:=(List.range m).map fun i=>np (ct d (i+1))
def bW(t:List af)(lf:Nat)(d ctx:List UInt8)(fresh:List Int)(m:Nat):List cb:=(List.range m).map fun i=>gy t d ctx i (mj t lf fresh i)
def rP(d:List UInt8)(kA:List Nat)(i:Nat):bY:=⟨(kA.getD i 0:Nat),pT (ct d (i+1))⟩
def cY(lf:Nat)(d:List UInt8)(kA:List Nat)(m:Nat):List bY:=⟨(2*lf:Nat),uM d⟩::(List.range m).map (rP d kA)
def pY(t:List af)(lf:Nat)(d:List UInt8)(fresh:List Int)(m:Nat):Bool:=(List.range m).all fun i=>stepG d i (mj t lf fresh i)
structure pZ where
 p:cS
 t:List af
 held:List bY
 Lw:List UInt8
def pZ.no:pZ:=⟨⟨0,[],[]⟩,[],[],[]⟩
def vP(t:List af)(lf:Nat)(d:List UInt8)(fresh:List Int):List af:=gM t lf (kB d) (cE d (aA lf (aM t)).length) fresh
def fZ(t:List af)(lf:Nat)(d ctx:List UInt8)(fresh:List Int):pZ:=
 ⟨⟨kB d,(nd (vP t lf d fresh) (2*lf)).parent,bW t lf d ctx fresh (aA lf (aM t)).length⟩,vP t lf d fresh,cY lf d (aA lf (aM t)) (aA lf (aM t)).length,ct d ((aA lf (aM t)).length+1)⟩
def p5(t:List af)(leaf:Int)(d ctx:List UInt8)(fresh:List Int):pZ×Int:=
 if iZ t leaf≠0 then(pZ.no,iZ t leaf) else if d.length≠32 then(pZ.no,2) else if fO (kB d)=false then(pZ.no,30) else
 if pY t leaf.toNat d fresh (aA leaf.toNat (aM t)).length=false then(pZ.no,30) else(fZ t leaf.toNat d ctx fresh,0)
theorem zY(d:List UInt8)(i:Nat):cE d (i+1)=cE d i++[np (ct d (i+1))]:=by simp[cE,List.range_succ]
theorem yx(t:List af)(lf:Nat)(d ctx:List UInt8)(fresh:List Int)(i:Nat):bW t lf d ctx fresh (i+1)=bW t lf d ctx fresh i++[gy t d ctx i (mj t lf fresh i)]:=by simp[bW,List.range_succ]
theorem zZ(lf:Nat)(d:List UInt8)(kA:List Nat)(i:Nat):cY lf d kA (i+1)=cY lf d kA i++[rP d kA i]:=by simp[cY,List.range_succ]
theorem OP(d:List UInt8):uM d<2^64:=by have:=uJ (Kdf.derive d yw);unfold uM;omega
def Bk(M:pZ)(e:Int):AV:=.eo [.agg M.p.cells,aW M.t,jy M.held,al M.Lw .any,.v (.int .i64 e)]
theorem HU{t:List af}{lf i:Nat}(cu:Fit (aM t))(gJ:lf<aM t)(me:t.length=2*aM t-1)(hi:i<(aA lf (aM t)).length):bZ (nodeAt lf (aM t) i)<t.length:=by
 obtain⟨h1,h2,-⟩:=iB cu gJ hi;have:=(nr cu h1 h2).2.2.2.2;omega
theorem Lx(t:List af)(leaf:Nat)(keys:List Nat)(fresh:List Int):∀i,(tr t leaf keys fresh i).2.length≤32
 |0=>Nat.zero_le _
 |i+1=>by
  simp only[tr];unfold od;split
  ·rw[Sha.de];decide
  ·exact Nat.zero_le _
theorem OQ(l:List af){k:Nat}(h:k<l.length)(x:af):nd (l.set k x) k=x:=by simp[nd,List.getD,h]
theorem Ja(t:List af)(leaf key:Nat)(keys:List Nat)(fresh:List Int)(h:2*leaf<t.length):(nd (gM t leaf key keys fresh) (2*leaf)).parent.length≤32:=by
 unfold gM;simp only;rw[OQ _ (by rw[lS];exact h)];exact Lx ..
theorem Cr(dO:Γ 0=ef Sha.H0)(gg:Γ 1=Sha.K.map wV)(hG:Γ 3=fu.map pn)(t:List af)(ht:dE t)(FD:t.length≤2^30)(hw:∀n∈t,nq n)(leaf:Int)
  (d ctx:List UInt8) (hd:d.length≤2^36) (Co:ctx.length≤2^30) (fresh:List Int) (hf:fresh.length≤2^40) (s:AS):
  aj prog Γ 10 [aW t,.v (.int .i64 leaf),al d .any,al ctx .any,aF fresh .any] s (fun r s'=>r=Bk (p5 t leaf d ctx fresh).1 (p5 t leaf d ctx fresh).2∧s'=s):=by
 refine vE func10 rfl ntmps10 results10 (by simp) ?_;have Eu:=fun s=>vQ (Γ:=Γ) hG t ht leaf s;have dL:=fun s=>iz (Γ:=Γ) hG t ht s;have NA:=fun n s=>ch (Γ:=Γ) n s;obtain⟨R,hR⟩:∃R,R=p5 t leaf d ctx fresh:=⟨_,rfl⟩;rw[←hR];obtain⟨R1,R2⟩:=R;simp only;unfold p5 at hR;have fQ:∀(sn:Nat)(e:Int),R1=pZ.no→R2=e→∀(E:Env)(s5:AS),s.le s5→s5.aw sn=some [.v (.int .u64 0),.v (.slice none 0 0),.v (.slice none 0 0)]→E 10=.ptr sn 0→E 11=.v (.slice none 0 0)→E 12=.v (.slice none 0 0)→E 13=.v (.slice none 0 0)→E 14=.v (.int .i64 e)→
   cf prog (#[ResultVar.cell 10 32,ResultVar.tmp 11,ResultVar.tmp 12,ResultVar.tmp 13,ResultVar.tmp 14]:Array ResultVar).toList (fun r s'=>r=Bk R1 R2∧s'=s) .ret E s5:=by
  intro sn e h1 h2 E s5 hle ho f10 f11 f12 f13 f14;subst h1 h2;refine oK (o:=sn) (off:=0) f10 ho (by rw[T.QE];decide) (by simp only[↓DN,Qa,Qb,Qc,Qd,Qe,Qf,Qg,Qh,reduceCtorEq,↓reduceIte,Na,Nb,Nc,Nk,Nf,Ng,Nh,Za,Zb,Zc,TT];rfl) ?_;rw[f11,f12,f13,f14];exact⟨_,s,AV.Bj (.cons (AV.pF (.cons (AV.aB.refl _) (.cons AV.aN (.cons AV.aN .nil)))) (.cons AV.aN (.cons AV.aN (.cons AV.aN (.cons (AV.aB.refl _) .nil))))),hle,rfl,rfl⟩
 unfold aW at Eu dL⊢;unfold aF al;refine dp ?_;intro K1 kh;refine jT fun K hK=>?_;intro sn Uc;refine hK _ _ (kh _ _ ?_);clear hK K kh K1;have Q8:=AS.ae s sn [.v (.int .u64 0),.v (.slice none 0 0),.v (.slice none 0 0)];have hle:=AS.aE (AS.le.refl s) Uc [.v (.int .u64 0),.v (.slice none 0 0),.v (.slice none 0 0)];generalize s.set sn [.v (.int .u64 0),.v (.slice none 0 0),.v (.slice none 0 0)]=s1 at *
 refine dp ?_;intro K1 kh;refine jK (Eu _) ?_;rintro s2 rfl;by_cases he:iZ t leaf=0
 ·have e0:(iZ t leaf != 0)=false:=(by simp[he]);rw[if_neg (by rw[he];simp)] at hR;refine jB @e0 ?_;refine jF ?_;refine ab ?_;refine kh _ _ ?_;clear kh K1;obtain⟨hr,hm⟩:=ln.1 he;obtain⟨lf,rfl⟩:=Int.eq_ofNat_of_zero_le hm.1;obtain⟨cu,me⟩:Fit (aM t)∧t.length=2*aM t-1:=by
   rcases bU (t:=t) with h|h
   ·exact absurd h hr.1
   ·exact h
  have pR:=cu.le;have gJ:lf<aM t:=by
   have:=hm.2.1;omega
  refine dp ?_;intro K1 kh;by_cases tc:d.length=32
  ·have e2:((d.length:Int) != 32)=false:=(by rw[tc];rfl);rw[if_neg (fun k=>k tc)] at hR;refine jB @e2 ?_;refine jF ?_;refine ab ?_;refine kh _ _ ?_;clear kh K1;have SF:=fun s=>kW (Γ:=Γ) dO gg d yw hd (by decide) s;have mi:=fun s=>oc (Γ:=Γ) dO gg (Kdf.derive d yw) (by rw[kV];decide) s;have Lt:=fun s=>eN (Γ:=Γ) (uM d) (OP d) s;have HV:∀s,aj prog Γ 41 [al (Kdf.derive d yw) .any] s (fun r s'=>r=.v (.int .u64 (uM d:Nat))∧s'=s):=mi;have HW:∀s,aj prog Γ 43 [.v (.int .u64 (uM d:Nat))] s (fun r s'=>r=.v (.int .u64 (kB d:Nat))∧s'=s):=Lt;clear mi Lt;have Gq:=fun s=>NA (kB d) s;generalize Kdf.derive d yw=dl at *
   obtain⟨ok,iN⟩:∃ok,ok=uM d:=⟨_,rfl⟩;obtain⟨op,gP⟩:∃op,op=kB d:=⟨_,rfl⟩;rw[←iN] at HV HW;rw[←gP] at HW Gq hR;unfold al yw at SF;unfold al at HV;refine eB ?_;intro K hK;refine jO ?_;refine ad (SF _) ?_;rintro r s3 ⟨rfl,rfl⟩;refine jM ?_;refine ad (HV _) ?_;rintro r s4 ⟨rfl,rfl⟩;refine jR hK ?_;clear hK K;refine eB ?_;intro K hK;refine jO ?_;refine ad (HW _) ?_;rintro r s5 ⟨rfl,rfl⟩;refine jM ?_;intro Dg q17;refine hK _ _ ?_;clear hK K;have dK:Dg≠sn:=(fun e=>by subst e;rw[Q8] at q17;cases q17);have Ch:s5.aw Dg=none:=q17;have s17:=none_le hle Ch;have Q9:=(AS.ao s5 (Ne.symm dK) [.v (.int .u64 op),.v (.slice none 0 0),.v (.slice none 0 0)]).trans Q8;have OR:=AS.ae s5 Dg [.v (.int .u64 op),.v (.slice none 0 0),.v (.slice none 0 0)];have Yl:=AS.aE hle s17 [.v (.int .u64 op),.v (.slice none 0 0),.v (.slice none 0 0)];generalize s5.set Dg [.v (.int .u64 op),.v (.slice none 0 0),.v (.slice none 0 0)]=s6 at *
   clear Q8 hle q17 Ch;refine dp ?_;intro K1 kh;obtain⟨q,hq⟩:∃q,q=fO op:=⟨_,rfl⟩;have I8:(decide (2≤(op:Int))&&decide ((op:Int)≤2305843009213693949))=q:=hq.symm;rw[I8] at Gq;rw[←hq] at hR;refine jS @OR fun K hK=>?_;refine ad (Gq _) ?_;rintro r s7 ⟨rfl,rfl⟩;cases q with
   |false=>
    rw[if_pos rfl] at hR;refine jR hK ?_;clear hK K;refine jE ?_;refine jB @Q9 ?_;refine a8 ?_;try simp only[az,ar]
    exact fQ sn 30 (congrArg (·.1) hR) (congrArg (·.2) hR) _ _ (uL Yl Uc _) (AS.ae _ _ _) rfl rfl rfl rfl rfl
   |true=>
    rw[if_neg (by decide)] at hR;refine jR hK ?_;clear hK K;refine jF ?_;refine ab ?_;refine kh _ _ ?_;clear kh K1 Gq HW HV SF;rw[if_pos hr] at dL;have j0:=fun s=>kT (Γ:=Γ) hG lf (aM t) cu gJ s;have Dx:=fun s=>iA (Γ:=Γ) hG lf (aM t) cu gJ s;have Gn:(aV (cJ lf (aM t))).length=(aA lf (aM t)).length:=(by simp[bz,cJ]);have FC:=bz (aA lf (aM t));have AF:=fw cu gJ;unfold aF at j0 Dx;rw[FC] at j0;rw[Gn] at Dx;have xp:∀a b:AV,oV 2 [a,b]=[a,b]:=fun _ _=>rfl;refine eB ?_;intro K hK;refine jO ?_;refine ad (dL _) ?_;rintro r s8 ⟨rfl,rfl⟩;refine jR hK ?_;clear hK K;refine eB ?_;intro K hK;refine jP (Ai (bE lf (by omega)) @xp) ?_;refine hK _ _ ?_;clear hK K;refine eB ?_;intro K hK;refine jO ?_;refine ad (Dx _) ?_;rintro r s9 ⟨rfl,rfl⟩;refine jR hK ?_;clear hK K;refine eB ?_;intro K hK;refine jO ?_;refine hK _ _ ?_;clear hK K;refine dp ?_;intro K1 kh;refine jK (j0 _) ?_;rintro ON rfl;have SC:∀i,i<(aA lf (aM t)).length→(List.take 1 (List.drop i ((aV (cJ lf (aM t))).map aI)))[0]? =some (AV.v (.int .i64 (bZ (nodeAt lf (aM t) i):Nat))):=by
     intro i hi;simp[List.getElem?_take,aV,cJ,hi,aI]
    have hUg:∀i,i<(aA lf (aM t)).length→(List.take 1 (List.drop i ((aV (aA lf (aM t))).map aI)))[0]? =some (AV.v (.int .i64 ((aA lf (aM t)).getD i 0:Nat))):=by
     intro i hi;simp[List.getElem?_take,aV,hi,aI]
    have dN:=fun i(hi:i<(aA lf (aM t)).length)s=>Cq (Γ:=Γ) dO gg hG t ht hr i (by omega) (bZ (nodeAt lf (aM t) i)) (HU cu gJ me hi) d ctx hd Co fresh hf s;have mT:=fun i(hi:i<(aA lf (aM t)).length+1)s=>pU (Γ:=Γ) dO gg d hd i (by omega) s;have Ly:=fun key keys hk s=>tu (Γ:=Γ) dO gg hG t ht FD hw hr lf hm key keys hk fresh hf s;unfold aW al aF at dN;unfold al at mT;obtain⟨H0,hH0⟩:∃H0,H0=AV.sl 2 1 [.v (.int .i64 (2*lf:Nat)),.v (.int .u64 ok)] .new:=⟨_,rfl⟩;have xhe:∀i,mj t lf fresh i=bA t (bZ (nodeAt lf (aM t) i):Nat) fresh:=fun _=>rfl;have SG:∀i,(hi:i<(aA lf (aM t)).length)→∀s,aj prog Γ 48 [.sl 5 t.length (aK af.cells t) .any,.v (.int .i64 i),.v (.int .i64 (bZ (nodeAt lf (aM t) i):Nat)),.sl 1 d.length (d.map ai) .any,.sl 1 ctx.length (ctx.map ai) .any,.sl 1 fresh.length (fresh.map aI) .any] s
      (fun r s'=>r=.eo [.agg (if stepG d i (mj t lf fresh i)=true then gy t d ctx i (mj t lf fresh i) else⟨0,[]⟩).cells,.v (.int .i64 (if stepG d i (mj t lf fresh i)=true then 0 else 30))]∧s'=s):=dN
    clear dN;rw[←hH0];rw[Int.toNat_natCast] at hR;generalize Ud:aK af.cells t=X at *
    generalize hPe:aA lf (aM t)=P at *
    generalize aV (cJ lf (aM t))=SD at *
    generalize aV P=U at *
    refine ah ?_;refine aD (fun E s2=>∃(i:Nat)(zP zK zH:AV),i≤P.length∧(∀j,j<i→stepG d j (mj t lf fresh j)=true)∧E 63=.v (.int .i64 i)∧E 62=.v (.int .i64 P.length)∧E 61=.sl 1 P.length (U.map aI) .any∧E 0=.sl 5 t.length X .any∧E 1=.v (.int .i64 lf)∧E 2=.sl 1 d.length (d.map ai) .any∧E 3=.sl 1 ctx.length (ctx.map ai) .any∧E 4=.sl 1 fresh.length (fresh.map aI) .any∧
      E 10=.ptr sn 0∧E 17=.ptr Dg 0∧E 20=.sl 1 P.length (SD.map aI) .any∧E 21=zK∧E 19=zH∧s2.aw sn=some [.v (.int .u64 0),.v (.slice none 0 0),.v (.slice none 0 0)]∧s2.aw Dg=some [.v (.int .u64 op),.v (.slice none 0 0),zP]∧gh 2 s s2 zP i (aK cb.cells (bW t lf d ctx fresh i)) bL 0 []∧gh 1 s s2 zK i ((cE d i).map eh) bL 0 []∧gh 2 s s2 zH (i+1) (aK bY.cells (cY lf d P i)) H0 1 [.v (.int .i64 (2*lf:Nat)),.v (.int .u64 ok)]∧
      (∀t,dy zP=some t→dy zK≠some t)∧(∀t,dy zP=some t→dy zH≠some t)∧(∀t,dy zK=some t→dy zH≠some t)∧s.le s2)
     (fun E _=>match E 63 with |.v (.int _ i)=>P.length-i.toNat|_=>0) ?_ ?_
    ·exact⟨0,bL,bL,H0,Nat.zero_le _,fun j h=>absurd h (Nat.not_lt_zero _),rfl,rfl,rfl,rfl,rfl,rfl,rfl,rfl,rfl,rfl,rfl,rfl,rfl,Q9,OR,.inl ⟨rfl,rfl,rfl⟩,.inl ⟨rfl,rfl,rfl⟩,
      .inl ⟨rfl,rfl,by rw[iN];rfl⟩,(fun t h=>by cases h),(fun t h=>by cases h),(fun t h=>by cases h),Yl⟩
    ·clear Q9 OR Yl;rintro E1 OO ⟨i,zP,zK,zH,hi,Es,Ue,LA,SH,g0,g1,g2,g3,g4,g10,g17,g20,g21,g19,Q9,OR,bP,bK,bH,dPK,dPH,dKH,hle⟩ -
     by_cases aY:i<P.length
     ·have bJ:((i:Nat):Int)<((P.length:Nat):Int):=(by omega);have cl:(0:Int)≤((i:Nat):Int):=(by omega);have Iy:=SC i aY;have SI:=hUg i aY;have c1:=fun s=>SG i aY s;have c2:=fun s=>mT i (by omega) s;have tn:=qq d i;have c3:=fun s=>mU (Γ:=Γ) dO gg (ct d (i+1)) (by omega) s;refine jB (Ai @LA (Ai @Ue (decide_eq_true bJ))) ?_;refine wK fun K2 aX=>?_;refine jE ?_;refine ab ?_;refine aX _ _ ?_;clear aX K2;refine wK fun K3 br=>?_;refine ah ?_;refine jB (Ai @SH (Ai @Ue (Ai @bJ (Ai @cl @SI)))) ?_;cases Lu:stepG d i (mj t lf fresh i) with
      |false=>
       have hRb:R1=pZ.no∧R2=30:=by
        have hb:pY t lf d fresh P.length=false:=by
         unfold pY;rw[List.all_eq_false];exact⟨i,List.mem_range.2 aY,by rw[Lu];decide⟩
        rw[if_pos hb] at hR;exact⟨congrArg (·.1) hR,congrArg (·.2) hR⟩
       simp only[Lu,Bool.false_eq_true,if_false,cb.cells] at c1;refine aU 24 (by decide) ?_;intro K4 eb;refine jN (Ai @g20 (Ai @g0 (Ai @g2 (Ai @g3 (Ai @g4 (Ai @bJ (Ai @cl @Iy))))))) ?_;refine ad (c1 _) ?_;rintro r s12 ⟨rfl,rfl⟩;refine jM ?_;intro o2 q2;refine eb _ _ o2 _ rfl q2 ?_;clear eb K4 q2;refine wK fun K4 eb=>?_;have e30:((30:Int) != 0)=true:=rfl;refine jB @e30 ?_;refine jE ?_;refine jB (Ai @g10 @Q9) ?_;refine a8 ?_;try simp only[az,ar]
       exact fQ sn 30 hRb.1 hRb.2 _ _ (uL hle Uc _) (AS.ae _ _ _) g10 rfl rfl rfl rfl
      |true=>
       simp only[Lu,if_true] at c1;have Q6:((0:Int) != 0)=false:=rfl;have gC:=yx t lf d ctx fresh i;have ng:=zY d i;have ND:=zZ lf d P i;have hSk:(gy t d ctx i (mj t lf fresh i)).key=np (ct d (i+1)):=rfl;have hSh:rP d P i=⟨(P.getD i 0:Nat),pT (ct d (i+1))⟩:=rfl;rw[hSh] at ND;rw[←hSk] at ng;generalize gy t d ctx i (mj t lf fresh i)=S at *
       generalize pT (ct d (i+1))=ky at *
       generalize ct d (i+1)=sc at *
       obtain⟨sk,sl⟩:=S;simp only[cb.cells] at c1;simp only at ng;have hSc:aK cb.cells [⟨sk,sl⟩]=[.v (.int .u64 (sk:Nat)),.sl 2 sl.length (aK dP.cells sl) .any]:=rfl;generalize aK dP.cells sl=SL at *
       unfold al at c3;refine aU 24 (by decide) ?_;intro K4 eb;refine jN (Ai @g20 (Ai @g0 (Ai @g2 (Ai @g3 (Ai @g4 (Ai @bJ (Ai @cl @Iy))))))) ?_;refine ad (c1 _) ?_;rintro r s12 ⟨rfl,rfl⟩;refine jM ?_;intro o2 q2;refine eb _ _ o2 _ rfl q2 ?_;clear eb K4 q2;refine wK fun K4 eb=>?_;refine jB @Q6 ?_;refine jF ?_;refine ab ?_;refine eb _ _ ?_;clear eb K4;have Ym:dy H0=none:=(by rw[hH0];rfl);have Ra:∀(L:List Nat)(x:Nat),(L++[x]).map eh=L.map eh++[.v (.int .u64 (x:Nat))]:=(fun L x=>by simp[eh]);obtain⟨F,hF⟩:∃F:Env→Prop,F=fun E=>E 63=.v (.int .i64 i)∧E 62=.v (.int .i64 P.length)∧E 61=.sl 1 P.length (U.map aI) .any∧E 0=.sl 5 t.length X .any∧E 1=.v (.int .i64 lf)∧E 2=.sl 1 d.length (d.map ai) .any∧E 3=.sl 1 ctx.length (ctx.map ai) .any∧E 4=.sl 1 fresh.length (fresh.map aI) .any∧E 10=.ptr sn 0∧E 17=.ptr Dg 0∧E 20=.sl 1 P.length (SD.map aI) .any:=⟨_,rfl⟩;have hJ7:∀(E:Env)(s7:AS)(zP zK zH:AV),F E→E 21=zK→E 19=zH→s7.aw sn=some [.v (.int .u64 0),.v (.slice none 0 0),.v (.slice none 0 0)]→s7.aw Dg=some [.v (.int .u64 op),.v (.slice none 0 0),zP]→gh 2 s s7 zP (i+1) (aK cb.cells (bW t lf d ctx fresh (i+1))) bL 0 []→gh 1 s s7 zK (i+1) ((cE d (i+1)).map eh) bL 0 []→gh 2 s s7 zH (i+1+1) (aK bY.cells (cY lf d P (i+1))) H0 1 [.v (.int .i64 (2*lf:Nat)),.v (.int .u64 ok)]→
         (∀t,dy zP=some t→dy zK≠some t)→(∀t,dy zP=some t→dy zH≠some t)→(∀t,dy zK=some t→dy zH≠some t)→s.le s7→K3 E s7:=by
        intro E s7 zP zK zH fF f21 f19 Gr Gs OS SJ SK x1 x2 x3 OT;rw[hF] at fF;obtain⟨f63,f62,f61,f0,f1,f2,f3,f4,f10,f17,f20⟩:=fF;refine br _ _ ?_;clear br K3;refine jD (Ai @f63 (bp i (by omega))) ?_;refine⟨⟨i+1,zP,zK,zH,aY,?_,rfl,f62,f61,f0,f1,f2,f3,f4,f10,f17,f20,f21,f19,Gr,Gs,OS,SJ,SK,x1,x2,x3,OT⟩,?_⟩
        ·intro j hj;by_cases e:j=i
         ·subst e;exact Lu
         ·exact Es j (by omega)
        ·simp only[Ue,aH,↓reduceIte];omega
       clear br;refine wK fun K5 jZ=>?_;have hJ5:∀(E:Env)(s5:AS)(zP:AV),F E→E 22=.v (.int .i64 i)→E 23=.v (.int .i64 (P.getD i 0:Nat))→E 24=.dr [.v (.int .u64 sk),.sl 2 sl.length SL .any]→E 21=zK→E 19=zH→s5.aw sn=some [.v (.int .u64 0),.v (.slice none 0 0),.v (.slice none 0 0)]→s5.aw Dg=some [.v (.int .u64 op),.v (.slice none 0 0),zP]→gh 2 s s5 zP (i+1) (aK cb.cells (bW t lf d ctx fresh (i+1))) bL 0 []→gh 1 s s5 zK i ((cE d i).map eh) bL 0 []→gh 2 s s5 zH (i+1) (aK bY.cells (cY lf d P i)) H0 1 [.v (.int .i64 (2*lf:Nat)),.v (.int .u64 ok)]→
         (∀t,dy zP=some t→dy zK≠some t)→(∀t,dy zP=some t→dy zH≠some t)→(∀t,dy zK=some t→dy zH≠some t)→s.le s5→K5 E s5:=by
        intro E s5 zP fF f22 f23 f24 f21 f19 Gr Gs OS SJ SK x1 x2 x3 OT;refine jZ _ _ ?_;clear jZ K5;clear bP bK bH;refine wK fun K6 kC=>?_;have hJ6:∀(E:Env)(s6:AS)(zK:AV),F E→E 22=.v (.int .i64 i)→E 23=.v (.int .i64 (P.getD i 0:Nat))→E 21=zK→E 19=zH→s6.aw sn=some [.v (.int .u64 0),.v (.slice none 0 0),.v (.slice none 0 0)]→s6.aw Dg=some [.v (.int .u64 op),.v (.slice none 0 0),zP]→gh 2 s s6 zP (i+1) (aK cb.cells (bW t lf d ctx fresh (i+1))) bL 0 []→gh 1 s s6 zK (i+1) ((cE d (i+1)).map eh) bL 0 []→gh 2 s s6 zH (i+1) (aK bY.cells (cY lf d P i)) H0 1 [.v (.int .i64 (2*lf:Nat)),.v (.int .u64 ok)]→
          (∀t,dy zP=some t→dy zK≠some t)→(∀t,dy zP=some t→dy zH≠some t)→(∀t,dy zK=some t→dy zH≠some t)→s.le s6→K6 E s6:=by
         intro E s6 zK fF f22 f23 f21 f19 Gr Gs OS SJ SK x1 x2 x3 OT;refine kC _ _ ?_;clear kC K6;have Yn:=fF;rw[hF] at Yn;obtain⟨f63,f62,f61,f0,f1,f2,f3,f4,f10,f17,f20⟩:=Yn;rcases SK with⟨rfl,fg,Np⟩|⟨tk,ek,rfl,NF,iJ⟩
         ·rw[hH0] at f19;refine jU (Ai @f2 (Ai @f22 (Ai @f19 @f23))) fun K hK=>?_;refine ad (c2 _) ?_;rintro r s8 ⟨rfl,rfl⟩;refine jM ?_;refine ad (c3 _) ?_;rintro r s9 ⟨rfl,rfl⟩;refine jN (Ai @f19 (Ai @f23 @xp)) ?_;intro tk dM;have Lv:=aZ OT dM;have fP:=OS.fresh rfl dM;have fK:=SJ.fresh rfl dM;refine hK _ _ (hJ7 _ _ zP zK (.sl 2 2 [.v (.int .i64 (2*lf:Nat)),.v (.int .u64 ok),.v (.int .i64 (P.getD i 0:Nat)),.v (.int .u64 ky)] (.own tk 0)) (by rw[hF];exact⟨f63,f62,f61,f0,f1,f2,f3,f4,f10,f17,f20⟩) f21 rfl Gr Gs (OS.bw fP) (SJ.bw fK) ?_ x1 ?_ ?_ (AS.bj OT Lv 0))
          ·rw[ND,kX,Np,show i=0 by omega];exact gh.new Lv (by simp[AS.bw])
          ·intro t h1 h2;simp only[dy,Option.some.injEq] at h2;subst h2;exact fP h1
          ·intro t h1 h2;simp only[dy,Option.some.injEq] at h2;subst h2;exact fK h1
         ·refine jU (Ai @f2 (Ai @f22 (Ai @f19 @f23))) fun K hK=>?_;refine ad (c2 _) ?_;rintro r s8 ⟨rfl,rfl⟩;refine jM ?_;refine ad (c3 _) ?_;rintro r s9 ⟨rfl,rfl⟩;refine jN (Ai @f19 (Ai @f23 (Ai @xp @NF))) ?_;have fP:dy zP≠some tk:=fun q=>x2 _ q rfl;have fK:dy zK≠some tk:=fun q=>x3 _ q rfl;refine⟨by omega,by omega,hK _ _ (hJ7 _ _ zP zK (.sl 2 (i+1+1) (aK bY.cells (cY lf d P i)++[.v (.int .i64 (P.getD i 0:Nat)),.v (.int .u64 ky)]) (.own tk (ek+1))) (by rw[hF];exact⟨f63,f62,f61,f0,f1,f2,f3,f4,f10,f17,f20⟩) f21 rfl Gr Gs (OS.bw fP) (SJ.bw fK) ?_ x1 ?_ ?_ (AS.bj OT iJ (ek+1)))⟩
          ·rw[ND,kX];exact gh.new iJ (by simp[AS.bw])
          ·intro t h1 h2;simp only[dy,Option.some.injEq] at h2;subst h2;exact fP h1
          ·intro t h1 h2;simp only[dy,Option.some.injEq] at h2;subst h2;exact fK h1
        have Yn:=fF;rw[hF] at Yn;obtain⟨f63,f62,f61,f0,f1,f2,f3,f4,f10,f17,f20⟩:=Yn;clear hJ7;rcases SJ with⟨rfl,fg,Np⟩|⟨tk,ek,rfl,NF,iJ⟩
        ·refine wE fun K hK=>?_;simp only[↓DN,Qa,Qb,Qc,Qd,Qe,Qf,Qg,Qh,reduceCtorEq,↓reduceIte,Na,Nb,Nc,Nk,Nf,Ng,Nh,Za,Zb,Zc,TT,f21,f24,bL,List.replicate_succ];intro tk dM;have Lv:=aZ OT dM;have fP:=OS.fresh rfl dM;have fH:=SK.fresh Ym dM;refine hK _ _ (hJ6 _ _ (.sl 1 1 [.v (.int .u64 sk)] (.own tk 0)) (by rw[hF];exact⟨f63,f62,f61,f0,f1,f2,f3,f4,f10,f17,f20⟩) f22 f23 rfl f19 Gr Gs (OS.bw fP) ?_ (SK.bw fH) ?_ x2 ?_ (AS.bj OT Lv 0))
         ·rw[ng,Ra,Np,show i=0 by omega];exact gh.new Lv (by simp[AS.bw])
         ·intro t h1 h2;simp only[dy,Option.some.injEq] at h2;subst h2;exact fP h1
         ·intro t h1 h2;simp only[dy,Option.some.injEq] at h1;subst h1;exact fH h2
        ·refine wE fun K hK=>?_;simp only[↓DN,Qa,Qb,Qc,Qd,Qe,Qf,Qg,Qh,reduceCtorEq,↓reduceIte,Na,Nb,Nc,Nk,Nf,Ng,Nh,Za,Zb,Zc,TT,f21,f24,NF,List.replicate_succ];have fP:dy zP≠some tk:=fun q=>x1 _ q rfl;have fH:dy zH≠some tk:=x3 _ rfl;refine⟨by omega,by omega,hK _ _ (hJ6 _ _ (.sl 1 (i+1) ((cE d i).map eh++[.v (.int .u64 sk)]) (.own tk (ek+1))) (by rw[hF];exact⟨f63,f62,f61,f0,f1,f2,f3,f4,f10,f17,f20⟩) f22 f23 rfl f19 Gr Gs (OS.bw fP) ?_ (SK.bw fH) ?_ x2 ?_ (AS.bj OT iJ (ek+1)))⟩
         ·rw[ng,Ra];exact gh.new iJ (by simp[AS.bw])
         ·intro t h1 h2;simp only[dy,Option.some.injEq] at h2;subst h2;exact fP h1
         ·intro t h1 h2;simp only[dy,Option.some.injEq] at h1;subst h1;exact fH h2
       clear hJ7;have Yo:s.aw Dg=none:=s17;rcases bP with⟨rfl,fg,Np⟩|⟨tk,ek,rfl,NF,iJ⟩
       ·refine wE fun K hK=>?_;simp only[↓DN,Qa,Qb,Qc,Qd,Qe,Qf,Qg,Qh,reduceCtorEq,↓reduceIte,Na,Nb,Nc,Nk,Nf,Ng,Nh,Za,Zb,Zc,TT,g17,OR,bL,xp];intro tk dM;have Lv:=aZ hle dM;have fK:=bK.fresh rfl dM;have fH:=bH.fresh Ym dM;refine hK _ _ (hJ5 _ _ (.sl 2 1 [.v (.int .u64 sk),.sl 2 sl.length SL .any] (.own tk 0)) (by rw[hF];exact⟨Ue,LA,SH,g0,g1,g2,g3,g4,g10,g17,g20⟩) rfl rfl rfl g21 g19 ?_ (AS.ae _ _ _) ?_ (bK.HT fK) (bH.HT fH) ?_ ?_ dKH (AS.aE (AS.bj hle Lv 0) Yo _))
        ·rw[AS.ao _ (Ne.symm dK)];exact Q9
        ·rw[gC,kX,hSc,Np,show i=0 by omega];exact gh.new Lv (by simp[AS.bw,AS.set])
        ·intro t h1 h2;simp only[dy,Option.some.injEq] at h1;subst h1;exact fK h2
        ·intro t h1 h2;simp only[dy,Option.some.injEq] at h1;subst h1;exact fH h2
       ·refine jU (Ai @g17 (Ai @OR (Ai @NF @xp))) fun K hK=>?_;have fK:dy zK≠some tk:=dPK _ rfl;have fH:dy zH≠some tk:=dPH _ rfl;refine⟨by omega,by omega,hK _ _ (hJ5 _ _ (.sl 2 (i+1) (aK cb.cells (bW t lf d ctx fresh i)++[.v (.int .u64 sk),.sl 2 sl.length SL .any]) (.own tk (ek+1))) (by rw[hF];exact⟨Ue,LA,SH,g0,g1,g2,g3,g4,g10,g17,g20⟩) rfl rfl rfl g21 g19 ?_ (AS.ae _ _ _) ?_ (bK.HT fK) (bH.HT fH) ?_ ?_ dKH (AS.aE (AS.bj hle iJ (ek+1)) Yo _))⟩
        ·rw[AS.ao _ (Ne.symm dK)];exact Q9
        ·rw[gC,kX,hSc];exact gh.new iJ (by simp[AS.bw,AS.set])
        ·intro t h1 h2;simp only[dy,Option.some.injEq] at h1;subst h1;exact fK h2
        ·intro t h1 h2;simp only[dy,Option.some.injEq] at h1;subst h1;exact fH h2
     ·have bJ:¬((i:Nat):Int)<((P.length:Nat):Int):=(by omega);obtain rfl:i=P.length:=(by omega);have hG:pY t lf d fresh P.length=true:=by
       unfold pY;rw[List.all_eq_true];intro j hj;exact Es j (List.mem_range.1 hj)
      rw[if_neg (by rw[hG];decide)] at hR;have qY:(cE d P.length).length=P.length:=(by simp[cE]);have LB:(bW t lf d ctx fresh P.length).length=P.length:=(by simp[bW]);have hHl:(cY lf d P P.length).length=P.length+1:=(by simp[cY]);have Uf:=fun s=>aj.gL (.cons (.refl _) (.cons (.refl _) (.cons (.refl _) (.cons (bK.aB AV.aN) (.cons (.refl _) .nil))))) (by
       have:=Ly op (cE d P.length) qY s;unfold tv aW aF at this;rw[Ud,qY] at this;exact this)
      have hMU:vP t lf d fresh=gM t lf op (cE d P.length) fresh:=(by unfold vP;rw[hPe,←gP]);have Yp:R1=fZ t lf d ctx fresh∧R2=0:=⟨congrArg (·.1) hR,congrArg (·.2) hR⟩;have hMV:fZ t lf d ctx fresh=⟨⟨op,(nd (gM t lf op (cE d P.length) fresh) (2*lf)).parent,bW t lf d ctx fresh P.length⟩,gM t lf op (cE d P.length) fresh,cY lf d P P.length,ct d (P.length+1)⟩:=by
       unfold fZ;rw[hMU,hPe,←gP]
      rw[hMV] at Yp;have c2:=fun s=>mT P.length (by omega) s;obtain⟨u,hu⟩:∃u,u=gM t lf op (cE d P.length) fresh:=⟨_,rfl⟩;rw[←hu] at Uf Yp;have hul:u.length=t.length:=(by rw[hu];unfold gM;simp only[List.length_set];exact lS ..);have hut:2*lf<u.length:=(by omega);have cx:=cK hut;have pX:(0:Int)≤((2*lf:Nat):Int):=(by omega);have oZ:((2*lf:Nat):Int)<((u.length:Nat):Int):=(by omega);have iF:=fun s=>fN (Γ:=Γ) (nd u (2*lf)).parent s (by
       have:=Ja t lf op (cE d P.length) fresh (show 2*lf<t.length by omega);rw[←hu] at this;omega)
      generalize hZ:aK af.cells u=Z at *
      generalize nd u (2*lf)=N at *
      obtain⟨n1,n2,n3,n4,n5⟩:=N;unfold af.cells at cx;unfold al at iF cx;simp only at iF Yp;refine jB (Ai @LA (Ai @Ue (decide_eq_false bJ))) ?_;refine wK fun K2 aX=>?_;refine jF ?_;refine aC ?_;simp only[az,ar,if_true];refine kh _ _ ?_;clear kh aX K2 K1;refine eB ?_;intro K hK;refine jP (Ai @g0 (Ai @g1 (Ai @g17 (Ai @OR (Ai @g21 @g4))))) ?_;refine ad (Uf _) ?_;rintro r s12 ⟨rfl,rfl⟩;refine jR hK ?_;clear hK K;refine eB ?_;intro K hK;refine jP (Ai @g1 (Ai @g17 (Ai @OR (Ai (bE lf (by omega)) (Ai @pX (Ai @oZ @cx)))))) ?_;refine ad (iF _) ?_;rintro r s13 ⟨rfl,rfl⟩;refine jV (Ai @g17 @OR) hK ?_;clear hK K;refine A8 (gZ.m9 (d:=17) (o:=Dg) (cs:=[.v (.int .u64 op),.sl 1 n4.length (n4.map ai) .any,zP]) g17 (AS.ae _ _ _)) (cp.g ?_);have HJ:((s13.set Dg [.v (.int .u64 op),.sl 1 n4.length (n4.map ai) .any,zP]).drop Dg).aw sn=some [.v (.int .u64 0),.v (.slice none 0 0),.v (.slice none 0 0)]:=by
       rw[←Q9];simp[AS.drop,AS.set,aH,Ne.symm dK]
      have Ub:s.le ((s13.set Dg [.v (.int .u64 op),.sl 1 n4.length (n4.map ai) .any,zP]).drop Dg):=AS.sB (AS.aE hle s17 _) s17;generalize (s13.set Dg [.v (.int .u64 op),.sl 1 n4.length (n4.map ai) .any,zP]).drop Dg=s14 at *
      have wH:=bH.aB (by rw[hH0];exact AV.bQ);have wP:=bP.aB AV.aN;have hPn:bL=AV.v (.slice none 0 0):=rfl;have bG:∀(E:Env),E 10=.ptr sn 0→E 11=.sl 5 u.length Z .any→E 12=zH→E 13=.sl 1 (ct d (P.length+1)).length ((ct d (P.length+1)).map ai) .any→E 14=.v (.int .i64 0)→
        cf prog (#[ResultVar.cell 10 32,ResultVar.tmp 11,ResultVar.tmp 12,ResultVar.tmp 13,ResultVar.tmp 14]:Array ResultVar).toList (fun r s'=>r=Bk R1 R2∧s'=s) .ret E (s14.set sn [.v (.int .u64 op),.sl 1 n4.length (n4.map ai) .any,zP]):=by
       intro E f10 f11 f12 f13 f14;refine oK (o:=sn) (off:=0) f10 (AS.ae _ _ _) (by rw[T.QE];decide) (by simp only[↓DN,Qa,Qb,Qc,Qd,Qe,Qf,Qg,Qh,reduceCtorEq,↓reduceIte,Na,Nb,Nc,Nk,Nf,Ng,Nh,Za,Zb,Zc,TT];rfl) ?_;rw[f11,f12,f13,f14,Yp.1,Yp.2];unfold Bk aW jy al cS.cells;simp only;rw[LB,hHl,hZ];exact⟨_,s,AV.Bj (.cons (AV.pF (.cons (AV.aB.refl _) (.cons (AV.aB.refl _) (.cons wP .nil)))) (.cons (AV.aB.refl _) (.cons wH (.cons (AV.aB.refl _) (.cons (AV.aB.refl _) .nil))))),AS.aE Ub Uc _,rfl,rfl⟩
      rcases bP with⟨rfl,fg,-⟩|⟨tk,ek,rfl,-,-⟩
      ·rw[fg] at c2 bG;refine pM T.mixed [8] [(1007,.sl 1 (ct d (0+1)).length ((ct d (0+1)).map ai) .any)] [0,1,2,3,4,5,6,7,8,9,10,11,12] (by kernel_rfl) ?_;intro K hK;simp only[↓xa,↓ta,↓nW,↓nY,Nat.reduceAdd,↓nX,ql,nU,rE,bN,DX,Nat.reduceBEq,List.toList_toArray,List.map_cons,List.map_nil,aO,↓DN,Qa,Qb,Qc,Qd,Qe,Qf,Qg,Qh,reduceCtorEq,↓reduceIte,Na,Nb,Nc,Nk,Nf,Ng,Nh,Za,Zb,Zc,TT,g2,g19,g10,HJ,hPn];refine HG c2 ?_;refine hK _ _ ?_;clear hK K;refine a8 ?_;try simp only[az,ar]
       exact bG _ g10 rfl rfl rfl rfl
      ·refine pM T.mixed [8] [(1007,.sl 1 (ct d (P.length+1)).length ((ct d (P.length+1)).map ai) .any)] [0,1,2,3,4,5,6,7,8,9,10,11,12] (by kernel_rfl) ?_;intro K hK;simp only[↓xa,↓ta,↓nW,↓nY,Nat.reduceAdd,↓nX,ql,nU,rE,bN,DX,Nat.reduceBEq,List.toList_toArray,List.map_cons,List.map_nil,aO,↓DN,Qa,Qb,Qc,Qd,Qe,Qf,Qg,Qh,reduceCtorEq,↓reduceIte,Na,Nb,Nc,Nk,Nf,Ng,Nh,Za,Zb,Zc,TT,g2,g19,g10,HJ];refine HG c2 ?_;refine hK _ _ ?_;clear hK K;refine a8 ?_;try simp only[az,ar]
       exact bG _ g10 rfl rfl rfl rfl
  ·have e2:((d.length:Int) != 32)=true:=by
    rw[bne_iff_ne];omega
   rw[if_pos tc] at hR;refine jB @e2 ?_;refine jE ?_;refine jB @Q8 ?_;refine a8 ?_;try simp only[az,ar]
   exact fQ sn 2 (congrArg (·.1) hR) (congrArg (·.2) hR) _ _ (uL hle Uc _) (AS.ae _ _ _) rfl rfl rfl rfl rfl
 ·have e0:(iZ t leaf != 0)=true:=(by simp[he]);rw[if_pos he] at hR;refine jB @e0 ?_;refine jE ?_;refine jB @Q8 ?_;refine a8 ?_;try simp only[az,ar]
  exact fQ sn _ (congrArg (·.1) hR) (congrArg (·.2) hR) _ _ (uL hle Uc _) (AS.ae _ _ _) rfl rfl rfl rfl rfl
theorem Ev{t:List af}{fresh:List Int}{up:Nat}{x:Int}(h:x∈yy t fresh up):0≤x∧x<(aM t:Int)∧fc up x=true∧cy t x:=by
  unfold yy Cs at h;simp only[List.mem_filter,List.mem_map,List.mem_range,Bool.and_eq_true,decide_eq_true_eq] at h;obtain⟨⟨k,hk,rfl⟩,_,h2,h3⟩:=h;exact⟨by omega,by omega,h2,h3⟩
theorem Ew(t:List af)(fresh:List Int)(up:Nat):iW (yy t fresh up):=by
  refine Jb ?_ fun x hx=>?_
  · unfold yy Cs;refine List.Pairwise.filter _ ?_;rw[List.pairwise_map];exact(List.pairwise_lt_range).imp fun h=>by omega
  · have:=Ev hx;have:=Ct t;omega
theorem p6{n:Nat}:fO n=true↔2≤n∧n≤2305843009213693949:=by
  unfold fO;rw[Bool.and_eq_true,decide_eq_true_iff,decide_eq_true_iff];omega
theorem tw{t:List af}{fresh:List Int}{up k:Nat}{par:List UInt8}(hk:fO k=true)(hp:par.length=0∨par.length=32):(⟨2,[],k,par,yy t fresh up⟩:af).right:=
  (fJ rfl).2 ⟨rfl,⟨(p6.1 hk).1,(p6.1 hk).2,hp⟩,Ew t fresh up⟩
theorem rQ(t:List af)(leaf:Nat)(keys:List Nat)(fresh:List Int):∀i,(ka t leaf keys fresh i).2.length=0∨(ka t leaf keys fresh i).2.length=32
  |0=>.inl rfl
  |i+1=>.inr (by simp only[ka];exact Sha.de _)
theorem HX{keys:List Nat}(hk:∀k∈keys,fO k=true){j:Nat}(h:j<keys.length):fO (keys.getD j 0)=true:=by
  simp only[List.getD,List.getElem?_eq_getElem h,Option.getD_some];exact hk _ (List.getElem_mem h)
theorem LC{t:List af}{leaf:Nat}{keys:List Nat}{fresh:List Int}(hk:∀k∈keys,fO k=true)(hl:(aA leaf (aM t)).length≤keys.length):
    ∀i,i≤(aA leaf (aM t)).length→tr t leaf keys fresh i=ka t leaf keys fresh i
  |0,_=>rfl
  |i+1,h=>by
    have ih:=LC hk hl (fresh:=fresh) i (by omega);have hb:=tw (t:=t) (fresh:=fresh) (up:=(aA leaf (aM t)).getD ((aA leaf (aM t)).length-1-i) 0) (HX hk (j:=(aA leaf (aM t)).length-1-i) (by omega)) (rQ t leaf keys fresh i);simp only[tr,ka];rw[ih];unfold od;rw[if_pos ⟨hb,rfl⟩]
theorem OU{t:List af}{leaf key:Nat}{keys:List Nat}{fresh:List Int}(hk:∀k∈keys,fO k=true)(hl:(aA leaf (aM t)).length≤keys.length):gM t leaf key keys fresh=kc t leaf key keys fresh:=by
  unfold gM kc;rw[LC hk hl _ (Nat.le_refl _)]
theorem vR{t:List af}{leaf:Nat}{fresh:List Int}{l:List cb}(h:ja t leaf fresh l=true):∀k∈l.map (·.key),fO k=true:=by
  intro k hk;obtain⟨q,hq,rfl⟩:=List.mem_map.1 hk;obtain⟨i,hi,rfl⟩:=List.getElem_of_mem hq;unfold ja at h;rw[List.all_eq_true] at h;have:=h i (List.mem_range.2 hi);unfold p7 at this;rw[Bool.and_eq_true] at this;simpa[List.getD,hi] using this.1
theorem Ex(t:List af)(leaf:Int)(p:cS)(fresh:List Int):fA t leaf p fresh=mW t leaf p fresh:=by
  unfold fA mW;split
  · rfl
  · split
    · rfl
    · rename_i h2;split
      · rfl
      · rename_i h3;rw[OU (vR (by simpa using h3)) (by rw[List.length_map];omega)]
def LD(t:List af)(j:Nat)(n:af):Prop:=j%2=1∧n.right∧n.kind=2∧∀u∈n.ig,0≤u∧u<(aM t:Int)∧fc j u=true∧cy t u
theorem HY{t:List af}{leaf:Nat}(cu:Fit (aM t))(gJ:leaf<aM t){keys:List Nat}{fresh:List Int}(hk:∀k∈keys,fO k=true)(hl:(aA leaf (aM t)).length≤keys.length):
    ∀i,i≤(aA leaf (aM t)).length→∀j,nd (ka t leaf keys fresh i).1 j=nd t j∨LD t j (nd (ka t leaf keys fresh i).1 j)
  |0,_,_=>.inl rfl
  |i+1,h,j=>by
    have ih:=HY cu gJ hk hl (fresh:=fresh) i (by omega) j;have hb:=tw (t:=t) (fresh:=fresh) (up:=(aA leaf (aM t)).getD ((aA leaf (aM t)).length-1-i) 0) (HX hk (j:=(aA leaf (aM t)).length-1-i) (by omega)) (rQ t leaf keys fresh i);have hm:(aA leaf (aM t)).getD ((aA leaf (aM t)).length-1-i) 0∈aA leaf (aM t):=by
      simp only[List.getD,List.getElem?_eq_getElem (show(aA leaf (aM t)).length-1-i<(aA leaf (aM t)).length by omega),Option.getD_some];exact List.getElem_mem _
    have hp:=yg cu gJ _ hm;simp only[ka];generalize (aA leaf (aM t)).getD ((aA leaf (aM t)).length-1-i) 0=up at *
    rw[LF];split
    · rename_i e;obtain⟨rfl,_⟩:=e;exact .inr ⟨hp.2.1,hb,rfl,fun u hu=>Ev hu⟩
    · exact ih
theorem Gt{t:List af}(hr:bd t){leaf key:Nat}(hm:cy t leaf)(hp:fO key=true){keys:List Nat}{fresh:List Int}(hk:∀k∈keys,fO k=true)(hl:(aA leaf (aM t)).length≤keys.length):bd (kc t leaf key keys fresh):=by
  obtain⟨⟨hL,hlen,h1,h2⟩,h3⟩:=hr.xbY;have gJ:leaf<aM t:=by
    have:=hm.2.1;have:=hL.le;omega
  have hnd:=HY hL gJ (fresh:=fresh) hk hl _ (Nat.le_refl _);have z7:=rQ t leaf keys fresh (aA leaf (aM t)).length;have wx:=p8 t leaf keys fresh (aA leaf (aM t)).length;have hev:∀a,nd (ka t leaf keys fresh (aA leaf (aM t)).length).1 (2*a)=nd t (2*a):=by
    intro a;rcases hnd (2*a) with h|h
    · exact h
    · have:=h.1;omega
  have Ug:∀j,nd (kc t leaf key keys fresh) j=if j=2*leaf then{nd t (2*leaf) with key:=key,parent:=(ka t leaf keys fresh (aA leaf (aM t)).length).2} else nd (ka t leaf keys fresh (aA leaf (aM t)).length).1 j:=by
    intro j;unfold kc;simp only;rw[LF,hev];by_cases e:j=2*leaf
    · rw[if_pos ⟨e.symm,by omega⟩,if_pos e]
    · rw[if_neg (fun q=>e q.1.symm),if_neg e]
  have hlw:(kc t leaf key keys fresh).length=2*aM t-1:=by
    unfold kc;rw[List.length_set,wx,hlen]
  generalize (ka t leaf keys fresh (aA leaf (aM t)).length).1=W at *
  generalize (ka t leaf keys fresh (aA leaf (aM t)).length).2=par at *
  generalize kc t leaf key keys fresh=T at *
  have Fy:(nd t (2*leaf)).kind=1:=(by simpa using hm.2.2);have Q1:∀a,(nd T (2*a)).kind=(nd t (2*a)).kind∧(nd T (2*a)).name=(nd t (2*a)).name:=by
    intro a;rw[Ug];by_cases e:2*a=2*leaf
    · rw[if_pos e,e];exact⟨rfl,rfl⟩
    · rw[if_neg e,hev];exact⟨rfl,rfl⟩
  refine(yz hL hlw).2 ⟨fun i hi=>?_,fun a b zy hbL ha hb=>?_,?_⟩
  · by_cases e:i=2*leaf
    · rw[Ug,if_pos e];have hq:=(eY Fy).1 (h1 _ (show 2*leaf<2*aM t-1 by omega)).1;refine⟨(eY (by exact Fy)).2 ⟨hq.1,hq.2.1,⟨(p6.1 hp).1,(p6.1 hp).2,z7⟩,hq.2.2.2⟩,.inr ⟨fun _=>by omega,fun _=>Fy⟩,?_⟩;have h0:(nd t (2*leaf)).ig=[]:=List.eq_nil_of_length_eq_zero hq.2.2.2;intro u hu;simp only[h0] at hu;cases hu
    · rw[Ug,if_neg e];rcases hnd i with h|⟨q1,q2,q3,q4⟩
      · rw[h];obtain⟨a1,a2,a3⟩:=h1 i hi;refine⟨a1,a2,fun u hu=>?_⟩;obtain⟨b1,b2,b3,b4,b5⟩:=a3 u hu;exact⟨b1,b2,b3,b4,by rw[(Q1 _).1];exact b5⟩
      · refine⟨q2,.inr ⟨fun h=>(by rw[q3] at h;cases h),fun h=>(by omega)⟩,fun u hu=>?_⟩;obtain⟨b1,b2,b3,b4⟩:=q4 u hu;have hL2:=hL.le;unfold fc ju at b3;rw[if_pos (by omega),Int.toNat_natCast,decide_eq_true_iff] at b3;exact⟨b3.1,b3.2,b1,b2,by rw[(Q1 _).1];exact b4.2.2⟩
  · rw[(Q1 _).1] at ha hb;rw[(Q1 _).2,(Q1 _).2];exact h2 a b zy hbL ha hb
  · rcases h3 with h3|⟨j,j1,j2,j3⟩
    · exact .inl h3
    · exact .inr ⟨j,j1,j2,by rw[(Q1 _).1];exact j3⟩
theorem Ey{t:List af}{leaf:Int}{p:cS}{fresh:List Int}(h:(mW t leaf p fresh).2=0):bd (mW t leaf p fresh).1:=by
  unfold mW at h⊢;by_cases h1:iZ t leaf≠0
  · rw[if_pos h1] at h;exact absurd h h1
  · rw[if_neg h1] at h⊢;by_cases h2:p.steps.length≠(aA leaf.toNat (aM t)).length∨fO p.key=false
    · rw[if_pos h2] at h;cases h
    · rw[if_neg h2] at h⊢;by_cases h3:ja t leaf.toNat fresh p.steps=false
      · rw[if_pos h3] at h;cases h
      · rw[if_neg h3] at h⊢;simp only at h⊢;by_cases h4:(nd (kc t leaf.toNat p.key (p.steps.map (·.key)) fresh) (2*leaf.toNat)).parent=p.parent
        · rw[if_pos h4];obtain⟨hr,hm⟩:=ln.1 (Classical.not_not.1 h1);have h0:=hm.1;refine Gt hr (by rw[show((leaf.toNat:Nat):Int)=leaf by omega];exact hm) ?_ (vR (by simpa using h3)) (by rw[List.length_map];omega);cases hq:fO p.key with
          |true=>rfl
          |false=>exact absurd (.inr hq) h2
        · rw[if_neg h4] at h;cases h
theorem Cu{t:List af}{leaf:Int}{d ctx:List UInt8}{fresh:List Int}(h:(p5 t leaf d ctx fresh).2=0):
    iZ t leaf=0∧d.length=32∧fO (kB d)=true∧pY t leaf.toNat d fresh (aA leaf.toNat (aM t)).length=true∧(p5 t leaf d ctx fresh).1=fZ t leaf.toNat d ctx fresh:=by
  unfold p5 at h⊢;by_cases h1:iZ t leaf=0
  · rw[if_neg (fun k=>k h1)] at h⊢;by_cases h2:d.length=32
    · rw[if_neg (fun k=>k h2)] at h⊢;cases h3:fO (kB d) with
      |false=>rw[h3,if_pos rfl] at h;cases h
      |true=>
        rw[h3,if_neg (by decide)] at h;rw[if_neg (by decide)];cases h4:pY t leaf.toNat d fresh (aA leaf.toNat (aM t)).length with
        |false=>rw[h4,if_pos rfl] at h;cases h
        |true=>exact⟨h1,h2,rfl,rfl,by rw[if_neg (by decide)]⟩
    · rw[if_pos h2] at h;cases h
  · rw[if_pos h1] at h;exact absurd h h1
theorem Ez{t:List af}{lf:Nat}{d:List UInt8}{fresh:List Int}{m i:Nat}(h:pY t lf d fresh m=true)(hi:i<m):stepG d i (mj t lf fresh i)=true:=by
  unfold pY at h;rw[List.all_eq_true] at h;exact h i (List.mem_range.2 hi)
theorem Jc{d:List UInt8}{i:Nat}{RT:List Int}(h:stepG d i RT=true):fO (np (ct d (i+1)))=true:=by
  unfold stepG at h;rw[Bool.and_eq_true] at h;exact h.1
theorem Bl(t:List af)(d ctx:List UInt8)(i:Nat)(RT:List Int):(gy t d ctx i RT).key=np (ct d (i+1)):=by unfold gy;exact Eq.refl _
theorem uN(t:List af)(d ctx:List UInt8)(i:Nat)(RT:List Int):(gy t d ctx i RT).dw.length=RT.length:=by unfold gy;exact List.length_map _
theorem tB(t:List af)(lf:Nat)(d ctx:List UInt8)(fresh:List Int){m i:Nat}(h:i<m):(bW t lf d ctx fresh m).getD i ⟨0,[]⟩=gy t d ctx i (mj t lf fresh i):=by
  simp[bW,List.getD,h]
theorem EA(t:List af)(lf:Nat)(d ctx:List UInt8)(fresh:List Int)(m:Nat):(bW t lf d ctx fresh m).map (·.key)=cE d m:=by
  unfold bW cE;rw[List.map_map];refine List.map_congr_left fun i _=>?_;rw[Function.comp_apply,Bl]
theorem Gu{t:List af}{lf:Nat}{d ctx:List UInt8}{fresh:List Int}(h:(p5 t lf d ctx fresh).2=0):fA t lf (fZ t lf d ctx fresh).p fresh=(vP t lf d fresh,0):=by
  obtain⟨h1,-,h3,h4,-⟩:=Cu h;rw[Int.toNat_natCast] at h4;have hl:(bW t lf d ctx fresh (aA lf (aM t)).length).length=(aA lf (aM t)).length:=(by simp[bW]);have hs:ja t lf fresh (bW t lf d ctx fresh (aA lf (aM t)).length)=true:=by
    unfold ja;rw[List.all_eq_true,hl];intro i hi;have aY:=List.mem_range.1 hi;rw[tB t lf d ctx fresh aY];unfold p7;rw[Bool.and_eq_true];rw[Bl,uN];refine⟨Jc (Ez h4 aY),?_⟩;rw[decide_eq_true_iff];unfold mj;exact Eq.refl _
  unfold fA fZ;simp only[Int.toNat_natCast];rw[if_neg (fun k=>k h1),if_neg (by rw[hl,h3];simp),if_neg (by rw[hs];simp),EA];have hU:gM t lf (kB d) (cE d (aA lf (aM t)).length) fresh=vP t lf d fresh:=(by unfold vP;rfl);rw[hU,if_pos rfl]
theorem tC(d:List UInt8)(a:Nat):∀i,ct (ct d a) i=ct d (a+i)
  |0=>rfl
  |i+1=>by rw[ct,tC d a i];rfl
theorem EB{x:Int}:∀{l:List Int},x∈l→∃i,∃hi:i<l.length,l[i]=x∧∀j(hj:j<l.length),j<i→l[j]≠x
  |[],h=>by cases h
  |y::l,h=>by
    by_cases e:y=x
    · exact⟨0,by simp,e,fun j _ h=>absurd h (Nat.not_lt_zero _)⟩
    · obtain⟨i,hi,h1,h2⟩:=EB ((List.mem_cons.1 h).resolve_left (fun k=>e k.symm));refine⟨i+1,by simpa using hi,by simpa using h1,?_⟩;intro j hj DA;cases j with
      |zero=>simpa using e
      |succ j=>simpa using h2 j (by simpa using hj) (by omega)
theorem Gv(d:List UInt8)(lf:Nat)(P:List Nat)(a:Nat)(ha:a≤P.length):dT (ct d (a+1)) (P.drop a)=(cY lf d P P.length).drop (1+a):=by
  apply List.ext_getElem
  · simp[dT,cY];omega
  · intro i h1 h2;rw[lQ,List.length_drop] at h1;have e1:(P.drop a).getD i 0=P.getD (a+i) 0:=(by simp[List.getD,List.getElem?_drop]);have e2:a+1+i=a+i+1:=(by omega);have e3:1+a+i=(a+i)+1:=(by omega);simp only[dT,List.getElem_map,List.getElem_range,List.getElem_drop,cY,e3,List.getElem_cons_succ,rP,e1,tC,e2]
theorem LG(d:List UInt8)(a n:Nat)(iP:Nat→Nat)(h:∀i,i<n→iP i=np (ct d (a+i+1))):rM (ct d (a+1)) n iP=true:=
  vL fun j hj=>by rw[h j hj,tC,show a+1+j=a+j+1 by omega]
theorem z8(dO:Γ 0=ef Sha.H0)(gg:Γ 1=Sha.K.map wV)(hG:Γ 3=fu.map pn)(t:List af)(ht:dE t)(FD:t.length≤2^30)(hw:∀n∈t,nq n)(lf:Nat)
    (d ctx:List UInt8) (Co:ctx.length≤2^30) (fresh:List Int) (hf:fresh.length≤2^40) (Nr:(p5 t lf d ctx fresh).2=0) (ow:Nat) (Yb:cy t ow) (dK:ow≠lf) (hnf:(ow:Int)∉fresh)
    (a:Nat) (ha:Q2 lf (aM t) ow=(a:Int)) (mb:a<(aA lf (aM t)).length) (x:Nat) (hx:(x:Int)∈mj t lf fresh a) (k:Nat) (hk:(nd t x).key=3^k%PP) (Fy:1≤k∧k≤2305843009213693949) (s:AS):
    aj prog Γ 27 [aW t,.v (.int .i64 lf),.agg (fZ t lf d ctx fresh).p.cells,.v (.int .i64 ow),jy [⟨(x:Nat),k⟩],al ctx .any,aF fresh .any] s
      (fun r s'=>r=.eo [jy (⟨(x:Nat),k⟩::(cY lf d (aA lf (aM t)) (aA lf (aM t)).length).drop (1+a)),al (ct d ((aA lf (aM t)).length+1)) .any,.v (.int .i64 0)]∧s'=s):=by
  obtain⟨h1,h2,h3,h4,-⟩:=Cu Nr
  rw[Int.toNat_natCast] at h4
  obtain⟨hr,hm⟩:=ln.1 h1
  obtain⟨cu,me⟩:Fit (aM t)∧t.length=2*aM t-1:=by
    rcases bU (t:=t) with h|h
    · exact absurd h hr.1
    · exact h
  have pR:=cu.le
  have gJ:lf<aM t:=by
    have:=hm.2.1
    omega
  have Iy:=HU cu gJ me mb
  obtain⟨m,hxm,hmt,xhp,p9⟩:=HS hr fresh Iy hx
  obtain rfl:x=m:=by omega
  obtain⟨i0,fg,hie,LH⟩:=EB hx
  have hl:(fZ t lf d ctx fresh).p.steps.length=(aA lf (aM t)).length:=by simp[fZ,bW]
  have qy:a<(fZ t lf d ctx fresh).p.steps.length:=by omega
  have dN:(fZ t lf d ctx fresh).p.steps[a]=gy t d ctx a (mj t lf fresh a):=by simp[fZ,bW]
  have tn:(fZ t lf d ctx fresh).p.steps[a].dw.length=(mj t lf fresh a).length:=by rw[dN];exact uN ..
  have Bi:((fZ t lf d ctx fresh).p.steps[a].dw[i0]'(by omega))=tq t d ctx a x:=by
    have :((gy t d ctx a (mj t lf fresh a)).dw[i0]'(by simpa[gy] using fg))=tq t d ctx a x:=by
      simp only[gy,List.getElem_map,hie,Int.toNat_natCast]
    simpa only[dN] using this
  have Lu:vM d a (x:Int)=true:=by
    have:=Ez h4 mb
    unfold stepG at this
    rw[Bool.and_eq_true,List.all_eq_true] at this
    exact this.2 _ hx
  have IV:vK (il (iw d a x)):=by
    unfold vM at Lu
    rw[Int.toNat_natCast] at Lu
    exact p6.1 Lu
  have JU:(mj t lf fresh a).length≤2^40:=by
    unfold mj bA
    split
    · have h1:=j9 hr fresh (lv (bZ (nodeAt lf (aM t) a):Int).toNat) (bZ (nodeAt lf (aM t) a):Int).toNat
      have h2:=oF (bZ (nodeAt lf (aM t) a):Int).toNat
      have h3:=Nat.pow_le_pow_right (show 0<2 by decide) h2
      omega
    · exact Nat.zero_le _
  have iF:=Cp (Γ:=Γ) dO gg hG t ht FD hw hr lf hm (fZ t lf d ctx fresh).p hl ow Yb dK ⟨(x:Nat),k⟩ ctx Co fresh hf hnf (by rw[Gu Nr]) a ha qy i0 fg hie LH (by omega) (by omega)
    (by rw[Bi];exact⟨IV,Fy.1,Fy.2⟩) (by rw[Bi];unfold tq im;rw[oe,qq];decide)
    (by
      intro h
      obtain⟨u,hu,he⟩:=List.mem_map.1 h
      have he:(u:Int)=(x:Int):=he
      obtain rfl:u=x:=by omega
      exact Lo cu gJ mb (by omega) p9 hu)
    (ct d (a+1)) (by rw[Bi];unfold tq;simp only;rw[hk];exact Sx ..) (by rw[Bi];unfold tq;simp only;rw[hk];exact Sy ..) (qq d a)
    (LG d a _ _ fun i hi=>by
      rw[List.length_drop] at hi
      have:=tB t lf d ctx fresh (m:=(aA lf (aM t)).length) (i:=a+i) (by omega)
      unfold fZ
      simp only
      rw[this]
      rfl) s
  rw[Gv d lf _ a (by omega),tC,show a+1+((aA lf (aM t)).length-a)=(aA lf (aM t)).length+1 by omega] at iF
  exact iF
end Go.Proofs.YtbiefppedlodiaaGreatDoor
namespace Go.AM
open Go Go.RowKit
variable{P:Program}{Γ:Nat→List AV}
theorem aj.settled{f:FuncId}{a b:AV}{post:List AV}{x x':AV}{s s':AS}{Q:AV→AS→Prop}(h:cg Γ s x s' x')(k:aj P Γ f (a::b::x'::post) s' Q):aj P Γ f (a::b::x::post) s Q:=by
  intro G w vs hs hv;have hv:=hv;simp only[au] at hv;obtain⟨u1,us1,rfl,h1,u2,us2,rfl,h2,u,us,rfl,h3,h4⟩:=hv;obtain⟨G',g1,g2,g3⟩:=h G w u hs h3;refine(k G' w _ g2 (by simp only[au];exact⟨u1,_,rfl,av.mono g1 _ _ h1,u2,_,rfl,av.mono g1 _ _ h2,u,_,rfl,g3,au.mono g1 _ _ h4⟩)).mono ?_;rintro e w' ⟨vp,r,v,iI,rfl,q1,q2,q3,q4⟩;exact⟨vp,r,v,iI,rfl,g1.trans q1,q2,q3,q4⟩
end Go.AM
namespace Go.Proofs.YtbiefppedlodiaaGreatDoor
open Go Go.AM Go.Proofs Tryz
variable{Γ:Nat→List AV}
def td:List UInt8:=List.replicate 32 0
theorem Gw:dd [98]=1143308707886319510:=by decide+kernel
theorem LI:uM td=1668877266923750098:=by decide+kernel
theorem LJ:pT (ct td 1)=954470548532752739:=by decide+kernel
theorem Jd:dd (iw td 0 2)=1379976697818645679:=by decide+kernel
theorem OV:3^1143308707886319510%PP=1403620569307361687:=(Hpke.EC 64 3 1143308707886319510 (by decide)).symm.trans (by decide+kernel)
theorem Je:3^1668877266923750098%PP=1108681655847164022:=(Hpke.EC 64 3 1668877266923750098 (by decide)).symm.trans (by decide+kernel)
theorem Jf:3^954470548532752739%PP=316409525784712861:=(Hpke.EC 64 3 954470548532752739 (by decide)).symm.trans (by decide+kernel)
theorem Gx:3^1379976697818645679%PP=2058778986153334545:=(Hpke.EC 64 3 1379976697818645679 (by decide)).symm.trans (by decide+kernel)
theorem ED:3^dd [98]%PP=1403620569307361687:=(congrArg (fun e=>3^e%PP) Gw).trans OV
theorem Jg(d:List UInt8):kB d=3^uM d%PP:=by unfold kB;exact Eq.refl _
theorem OW(d:List UInt8):np d=3^pT d%PP:=by unfold np;exact Eq.refl _
theorem EE:kB td=1108681655847164022:=(Jg td).trans ((congrArg (fun e=>3^e%PP) LI).trans Je)
theorem Jh:np (ct td 1)=316409525784712861:=(OW _).trans ((congrArg (fun e=>3^e%PP) LJ).trans Jf)
theorem Ji:il (iw td 0 2)=2058778986153334545:=(Lj _).trans ((congrArg (fun e=>3^e%PP) Jd).trans Gx)
def tA:List af:=[⟨1,[97],9,[],[]⟩,af.gH,⟨1,[98],1403620569307361687,[],[]⟩]
theorem ns:bd tA∧cy tA 0∧cy tA 1∧aM tA=2∧dE tA∧Q2 0 2 1=0∧aA 0 2=[1]∧bZ (nodeAt 0 2 0)=2∧fy tA [] (lv 2) 2=[2]:=by decide+kernel
theorem Gy:mj tA 0 [] 0=[2]:=by
 unfold mj bA;rw[ns.2.2.2.1,ns.2.2.2.2.2.2.2.1,if_pos ⟨by decide,by decide,ns.1⟩];exact ns.2.2.2.2.2.2.2.2
theorem uP:(aA 0 (aM tA)).length=1:=by rw[ns.2.2.2.1,ns.2.2.2.2.2.2.1];rfl
theorem EF:∀n∈tA,nq n:=by unfold tA nq;decide
theorem Cv:(p5 tA (0:Nat) td [] []).2=0:=by
 have hm:iZ tA (0:Nat)=0:=ln.2 ⟨ns.1,ns.2.1⟩;have hG:pY tA 0 td [] 1=true:=by
  unfold pY;rw[List.all_eq_true];intro i hi;obtain rfl:i=0:=(by have:=List.mem_range.1 hi;omega);rw[Gy];unfold stepG;rw[show(0:Nat)+1=1 from rfl,Jh,Bool.and_eq_true,List.all_eq_true];refine⟨by decide,fun n hn=>?_⟩;obtain rfl:n=2:=(by simpa using hn);unfold vM;rw[show(2:Int).toNat=2 from rfl,Ji];decide
 unfold p5;rw[if_neg (fun k=>k hm),if_neg (by decide),EE,if_neg (by decide),Int.toNat_natCast,uP,if_neg (by rw[hG];decide)]
theorem SP(a c:Int)(b d:Nat):Iu prog 67 .eql [.v (.int .i64 a),.v (.int .u64 b)] [.v (.int .i64 c),.v (.int .u64 d)]=some (.v (.bool (decide (a=c∧b=d)))):=by
 have h:Iu prog 67 .eql [.v (.int .i64 a),.v (.int .u64 b)] [.v (.int .i64 c),.v (.int .u64 d)]=some (.v (.bool ((a==c)&&(((b:Nat):Int)==((d:Nat):Int)&&true)))):=by
  kernel_rfl
 rw[h];refine congrArg (fun b=>some (AV.v (Value.bool b))) ?_;rw[Bool.eq_iff_iff];simp only[Bool.and_true,Bool.and_eq_true,beq_iff_eq,decide_eq_true_iff];omega
theorem Aa(dO:Γ 0=ef Sha.H0)(gg:Γ 1=Sha.K.map wV)(hG:Γ 3=fu.map pn)(s:AS):aj prog Γ 8 [] s (fun r s'=>r=.v (.bool true)∧s'=s):=by
 refine aa func8 rfl ntmps8 results8 (by simp) ?_;have c1:=fun s=>yA (Γ:=Γ) [98] (by decide) s;have c2:=fun s=>tD (Γ:=Γ) (dd [98]) (by rw[Gw];decide) s;have c3:=fun s=>Cr (Γ:=Γ) dO gg hG tA ns.2.2.2.2.1 (by decide) EF (0:Nat) td [] (by decide) (by decide) [] (by decide) s;have c4:=fun s=>z8 (Γ:=Γ) dO gg hG tA ns.2.2.2.2.1 (by decide) EF 0 td [] (by decide) [] (by decide) Cv 1 ns.2.2.1 (by decide) (by simp) 0 (by rw[ns.2.2.2.1];exact ns.2.2.2.2.2.1) (by rw[uP];decide) 2 (by rw[Gy];simp)
  (dd [98]) (by rw[ED];rfl) (by rw[Gw];decide) s
 rw[Cv,(Cu Cv).2.2.2.2] at c3;rw[ED] at c2;rw[uP] at c4;rw[Int.toNat_natCast] at c3;have hH1:cY 0 td (aA 0 (aM tA)) 1=[⟨(2*0:Nat),uM td⟩,rP td (aA 0 (aM tA)) 0]:=(by unfold cY;simp only[List.range_succ,List.range_zero,List.nil_append,List.map_cons,List.map_nil]);obtain⟨V,hV⟩:∃V,V=fZ tA 0 td [] []:=⟨_,rfl⟩;have v1:V.p.steps=[gy tA td [] 0 [2]]:=by
  rw[hV];unfold fZ bW;simp only;rw[uP];simp only[List.range_succ,List.range_zero,List.nil_append,List.map_cons,List.map_nil];rw[Gy]
 have v2:V.t.length=3:=by
  rw[hV];unfold fZ vP gM;simp only[List.length_set];rw[lS];decide
 have v3:V.held=[⟨(2*0:Nat),uM td⟩,rP td (aA 0 (aM tA)) 0]:=by
  rw[hV];unfold fZ;simp only;rw[uP,hH1]
 have v4:V.Lw=ct td (1+1):=by
  rw[hV];unfold fZ;simp only;rw[uP]
 rw[←hV] at c3 c4;rw[hH1] at c4;simp only[List.drop_succ_cons,List.drop_zero] at c4;have v5:(gy tA td [] 0 [2]).dw.length=1:=uN ..;clear hV hH1;generalize gy tA td [] 0 [2]=S at *
 generalize rP td (aA 0 (aM tA)) 0=h1 at *
 generalize uM td=ok at *
 generalize ct td (1+1)=cm at *
 generalize dd [98]=kb at *
 obtain⟨⟨pk,pp,ps⟩,vt,vh,vc⟩:=V;obtain⟨sk,sl⟩:=S;obtain⟨hn,hk⟩:=h1;simp only at v1 v2 v3 v4 v5;subst v1 v3 v4;have tp:aW tA=.sl 5 3 [.v (.int .i64 1),.sl 1 1 [.v (.int .u8 97)] .any,.v (.int .u64 9),.sl 1 0 [] .any,.sl 1 0 [] .any,.v (.int .i64 0),.sl 1 0 [] .any,.v (.int .u64 0),.sl 1 0 [] .any,.sl 1 0 [] .any,.v (.int .i64 1),.sl 1 1 [.v (.int .u8 98)] .any,.v (.int .u64 (1403620569307361687:Nat)),.sl 1 0 [] .any,.sl 1 0 [] .any] .any:=rfl;have htw:(AV.sl 5 3 [.v (.int .i64 1),.sl 1 1 [.v (.int .u8 97)] .new,.v (.int .u64 9),.v (.slice none 0 0),.v (.slice none 0 0),.v (.int .i64 0),.v (.slice none 0 0),.v (.int .u64 0),.v (.slice none 0 0),.v (.slice none 0 0),.v (.int .i64 1),.sl 1 1 [.v (.int .u8 98)] .new,.v (.int .u64 (1403620569307361687:Nat)),.v (.slice none 0 0),.v (.slice none 0 0)] .new).aB (aW tA):=by
  rw[tp];exact fun G v h=>AV.bQ G v (AV.sX (.cons (AV.aB.refl _) (.cons AV.bQ (.cons (AV.aB.refl _) (.cons AV.aN (.cons AV.aN (.cons (AV.aB.refl _) (.cons AV.aN (.cons (AV.aB.refl _) (.cons AV.aN (.cons AV.aN (.cons (AV.aB.refl _) (.cons AV.bQ (.cons (AV.aB.refl _) (.cons AV.aN (.cons AV.aN .nil))))))))))))))) G v h)
 obtain⟨TN,hTN⟩:∃TN,TN=AV.sl 5 3 [.v (.int .i64 1),.sl 1 1 [.v (.int .u8 97)] .new,.v (.int .u64 9),.v (.slice none 0 0),.v (.slice none 0 0),.v (.int .i64 0),.v (.slice none 0 0),.v (.int .u64 0),.v (.slice none 0 0),.v (.slice none 0 0),.v (.int .i64 1),.sl 1 1 [.v (.int .u8 98)] .new,.v (.int .u64 (1403620569307361687:Nat)),.v (.slice none 0 0),.v (.slice none 0 0)] .new:=⟨_,rfl⟩;rw[←hTN] at htw;have Rb:∀(o:Nat)(s:AS),s.aw o=none→aj prog Γ 10 [TN,.v (.int .i64 0),.gR o 0 1 32 32,.v (.slice none 0 0),.v (.slice none 0 0)] (s.set o (List.replicate 32 (.v (.int .u8 0)))) (fun r s'=>r=Bk ⟨⟨pk,pp,[⟨sk,sl⟩]⟩,vt,[⟨(2*0:Nat),ok⟩,⟨hn,hk⟩],vc⟩ 0∧s'=s):=fun o s ho=>by
  have hz:(td.map ai)=List.replicate 32 (.v (.int .u8 0)):=(by unfold td;rw[List.map_replicate];rfl);refine aj.settled (cg.outer (cs:=List.replicate 32 (.v (.int .u8 0))) (rest:=[]) (by rw[List.append_nil];exact AS.ae _ _ _) (by simp)) ?_;rw[AS.drop_set ho];have:=aj.gL (.cons htw (.cons (AV.aB.refl _) (.cons (AV.aB.refl _) (.cons AV.aN (.cons AV.aN .nil))))) (c3 s);unfold al at this;rw[hz] at this;exact this
 have Uh:∀s,aj prog Γ 27 [TN,.v (.int .i64 0),.agg (cS.cells ⟨pk,pp,[⟨sk,sl⟩]⟩),.v (.int .i64 1),.sl 2 1 [.v (.int .i64 2),.v (.int .u64 kb)] .new,.v (.slice none 0 0),.v (.slice none 0 0)] s
   (fun r s'=>r=.eo [jy [⟨(2:Nat),kb⟩,⟨hn,hk⟩],al vc .any,.v (.int .i64 0)]∧s'=s):=fun s=>
  aj.gL (.cons htw (.cons (AV.aB.refl _) (.cons (AV.aB.refl _) (.cons (AV.aB.refl _) (.cons AV.bQ (.cons AV.aN (.cons AV.aN .nil))))))) (c4 s)
 clear c3 c4 tp htw;have SQ:∀a:AV,List.replicate 1 a=[a]:=fun _=>rfl;have Yq:∀a b c d e:AV,oV 15 [a,b,c,d,e]=[a,b,c,d,e,a,b,c,d,e,a,b,c,d,e]:=(fun _ _ _ _ _=>by simp[oV,List.range_succ]);have xp:∀a b:AV,oV 2 [a,b]=[a,b]:=fun _ _=>rfl;unfold Bk cS.cells at Rb;unfold cS.cells at Uh;unfold aW at Rb;simp only at Rb Uh;rw[v2] at Rb;simp only[jy,List.length_cons,List.length_nil,Nat.zero_add,Nat.reduceAdd] at Rb Uh;have hX:aK cb.cells [⟨sk,sl⟩]=[.v (.int .u64 (sk:Nat)),.sl 2 1 (aK dP.cells sl) .any]:=(by rw[←v5];rfl);have hY1:aK bY.cells [⟨(2*0:Nat),ok⟩,⟨hn,hk⟩]=[.v (.int .i64 0),.v (.int .u64 ok),.v (.int .i64 hn),.v (.int .u64 hk)]:=rfl;have hY2:aK bY.cells [⟨(2:Nat),kb⟩,⟨hn,hk⟩]=[.v (.int .i64 2),.v (.int .u64 kb),.v (.int .i64 hn),.v (.int .u64 hk)]:=rfl;rw[hX,hY1] at Rb;rw[hX,hY2] at Uh;generalize aK dP.cells sl=SL at *
 generalize aK af.cells vt=X at *
 unfold al at Rb Uh;clear hX hY1 hY2 v5 v2;refine jA ?_;refine jK (c1 _) ?_;rintro s1 rfl;refine jS (Ai @SQ @Yq) fun K hK=>?_;refine ad (c2 _) ?_;rintro r s2 ⟨rfl,rfl⟩;refine jV (Ai @SQ @Yq) hK ?_;clear hK K;rw[←hTN];refine aU 3 (by decide) ?_;intro K hK;refine jM ?_;refine⟨by decide,by decide,fun o ho=>?_⟩;refine ad (Rb o _ ho) ?_;rintro r s3 ⟨rfl,rfl⟩;refine jM ?_;intro o3 q3;refine hK _ _ o3 _ rfl q3 ?_;clear hK K q3;refine jS (Ai @SQ @xp) fun K hK=>?_;refine ad (Uh _) ?_;rintro r s4 ⟨rfl,rfl⟩;refine jR hK ?_;clear hK K;have wA:(((1:Nat):Int)==1)=true:=rfl;have Q6:((0:Int)==0)=true:=rfl;have e33:(((3:Nat):Int)==3)=true:=rfl;have e22:(((2:Nat):Int)==2)=true:=rfl;have h01:(0:Int)<((1:Nat):Int):=(by decide);have h02:(1:Int)<((2:Nat):Int):=(by decide);have hse:Iu prog 67 .eql [.v (.int .i64 hn),.v (.int .u64 hk)] [.v (.int .i64 hn),.v (.int .u64 hk)]=some (.v (.bool true)):=(by rw[SP,decide_eq_true ⟨rfl,rfl⟩]);have zu:((vc==vc)=true):=beq_self_eq_true vc;refine ba T.mixed [] (by kernel_rfl) ?_;intro K hK;refine jV (Ai @wA (Ai @Q6 (Ai @e33 (Ai @e22 (Ai @h01 (Ai @h02 (Ai @hse (Ai @jm (Ai @gU @zu))))))))) hK ?_;clear hK K;exact jJ
structure oL where
 t:List af
 leaf:Int
 own:Int
 draw:List UInt8
 ctx:List UInt8
 fresh:List Int
def oL.cells(c:oL):List AV:=[aW c.t,.v (.int .i64 c.leaf),.v (.int .i64 c.own),al c.draw .any,al c.ctx .any,aF c.fresh .any]
def oL.small(c:oL):Prop:=c.t.length≤31∧c.draw.length≤40∧c.ctx.length≤100∧c.fresh.length≤5∧∀n∈c.t,uQ n
theorem oL.small.wide{c:oL}(h:c.small)(hk:∀n∈c.t,n.key<2^64):dE c.t∧c.t.length≤2^30∧(∀n∈c.t,nq n):=by
 refine⟨⟨by have:=h.1;omega,fun n hn=>⟨by have:=(h.2.2.2.2 n hn).2.2;omega,hk n hn⟩⟩,by have:=h.1;omega,fun n hn=>?_⟩;obtain⟨a,b,c⟩:=h.2.2.2.2 n hn;unfold nq;omega
theorem Ab(c:oL)(s:AS):aj prog Γ 9 [.agg c.cells] s (fun r s'=>(∃v,r=.v (.bool v)∧(v=true→c.small))∧s'=s):=by
 refine aa func9 rfl ntmps9 results9 (by simp) ?_;obtain⟨t,leaf,own,draw,ctx,fresh⟩:=c;unfold oL.small;simp only[oL.cells];have cx:=fun(i:Nat)(hi:i<t.length)=>cK hi;unfold aW al aF;generalize hX:aK af.cells t=X at *
 refine aU 1 (by decide) ?_;intro K hK;refine jM ?_;intro o ho;refine hK _ _ o _ rfl ho ?_;clear hK K ho;refine wK fun K hK=>?_;rcases tt4 (decide ((31:Int)<(t.length:Int))) (decide ((40:Int)<(draw.length:Int))) (decide ((100:Int)<(ctx.length:Int))) (decide ((5:Int)<(fresh.length:Int))) with hd|hd|hd|hd|hd;case inr.inr.inr.inr=>
  refine wS fun K hK=>?_;simp (config := { maxSteps := 1000000 }) only [↓DN,Qa,Qb,Qc,Qd,Qe,Qf,Qg,Qh,reduceCtorEq,↓reduceIte,Na,Nb,Nc,Nk,Nf,Ng,Nh,Za,Zb,Zc,TT,hd];refine hK _ _ ?_;clear hK K;refine jF ?_;refine ab ?_;refine hK _ _ ?_;clear hK K;simp only [decide_eq_false_iff_not] at hd;obtain ⟨d1,d2,d3,d4⟩:=hd;refine wK fun K hK=>?_;refine jA ?_;refine ah ?_;refine aD (fun E s2=>∃ i : Nat,i≤t.length∧(∀ b ∈ t.take i,uQ b)∧E 3 = .v (.int .i64 i)∧E 1 = .dr [.sl 5 t.length X .any,.v (.int .i64 leaf),.v (.int .i64 own),.sl 1 draw.length (draw.map ai) .any,.sl 1 ctx.length (ctx.map ai) .any,.sl 1 fresh.length (fresh.map aI) .any]∧s2 = s)
   (fun E _=>match E 3 with |.v (.int _ i)=>t.length-i.toNat|_=>0) ?_ ?_
  ·exact⟨0,Nat.zero_le _,by simp,rfl,rfl,rfl⟩
  ·rintro E1 s4 ⟨i,hi,bT,g3,g1,rfl⟩ -
   refine wK fun K2 aX=>?_;by_cases aY:i<t.length
   ·refine jB (Ai @g3 (Ai @g1 (Ai @aq (decide_eq_true aY)))) ?_;refine jE ?_;refine ab ?_;refine aX _ _ ?_;clear aX K2;refine wK fun K3 br=>?_;refine ah ?_;have cl:(0:Int)≤(i:Int):=(by omega);have iK:=cx i aY;have dM:=List.take_succ_eq_append_getElem aY;rw[rR aY] at iK;generalize t[i]=N at *
    obtain⟨nk,nm,ny,jj,nu⟩:=N;unfold af.cells at iK;unfold al aF at iK;rcases tt3 (decide ((40:Int)<(nm.length:Int))) (decide ((60:Int)<(jj.length:Int))) (decide ((40:Int)<(nu.length:Int))) with hb|hb|hb|hb;case inr.inr.inr=>
     refine wS fun K hK=>?_;simp (config := { maxSteps := 1000000 }) only [↓DN,Qa,Qb,Qc,Qd,Qe,Qf,Qg,Qh,reduceCtorEq,↓reduceIte,Na,Nb,Nc,Nk,Nf,Ng,Nh,Za,Zb,Zc,TT,g3,g1,cl,aq,aY,iK,hb];refine hK _ _ ?_;clear hK K;refine jF ?_;refine ab ?_;simp only [ar,az,if_true,if_false];refine br _ _ ?_;clear br K3;refine jD (Ai @g3 (bp i (by omega))) ?_;simp only [decide_eq_false_iff_not] at hb;refine ⟨⟨i + 1,by omega,?_,rfl,g1,rfl⟩,?_⟩
     ·rw[dM];intro x hx;rw[List.mem_append,List.mem_singleton] at hx;rcases hx with hx|rfl
      ·exact bT x hx
      ·exact⟨by simp only;omega,by simp only;omega,by simp only;omega⟩
     ·simp only[g3,aH,↓reduceIte];omega
    all_goals
     refine wS fun K hK=>?_;simp (config := { maxSteps := 1000000 }) only [↓DN,Qa,Qb,Qc,Qd,Qe,Qf,Qg,Qh,reduceCtorEq,↓reduceIte,Na,Nb,Nc,Nk,Nf,Ng,Nh,Za,Zb,Zc,TT,g3,g1,cl,aq,aY,iK,hb];refine hK _ _ ?_;clear hK K;refine jE ?_;refine jA ?_;refine jI ?_;exact ⟨_,_,AV.aB.refl _,AS.le.refl _,⟨false,rfl,fun h=>by cases h⟩,rfl⟩
   ·refine jB (Ai @g3 (Ai @g1 (Ai @aq (decide_eq_false aY)))) ?_;refine jF ?_;refine aC ?_;simp only[az,ar,if_true];refine hK _ _ ?_;clear hK aX K2 K;refine jA ?_;refine jI ?_;rw[List.take_of_length_le (by omega)] at bT;exact⟨_,_,AV.aB.refl _,AS.le.refl _,⟨true,rfl,fun _=>⟨by omega,by omega,by omega,by omega,bT⟩⟩,rfl⟩
 all_goals
  refine wS fun K hK=>?_;simp (config := { maxSteps := 1000000 }) only [↓DN,Qa,Qb,Qc,Qd,Qe,Qf,Qg,Qh,reduceCtorEq,↓reduceIte,Na,Nb,Nc,Nk,Nf,Ng,Nh,Za,Zb,Zc,TT,hd];refine hK _ _ ?_;clear hK K;refine jE ?_;refine jA ?_;refine jI ?_;exact ⟨_,_,AV.aB.refl _,AS.le.refl _,⟨false,rfl,fun h=>by cases h⟩,rfl⟩
theorem Gz{n:af}(h:n.right):n.ig.length≤2^61∧n.key<2^64:=by
 have hu:=(nv h).1;refine⟨by omega,?_⟩;rcases iX h with hk|hk|hk
 ·rw[(lM hk).1 h];decide
 ·have:=((eY hk).1 h).2.2.1.2.1;omega
 ·have:=((fJ hk).1 h).2.1.2.1;omega
theorem Jj{t:List af}(hr:bd t):t.length≤63:=by
 rcases bU (t:=t) with h|h
 ·exact absurd h hr.1
 ·have:=h.1.le;omega
theorem GA{t:List af}(hr:bd t):dE t:=by
 refine⟨by have:=Jj hr;omega,fun n hn=>?_⟩;obtain⟨i,hi,rfl⟩:=List.mem_iff_getElem.1 hn;have:=hr.nd i;rw[rR hi] at this;exact Gz this
theorem GC(t:List af)(leaf:Int)(p:cS)(fresh:List Int):dE (fA t leaf p fresh).1:=by
 by_cases h:(fA t leaf p fresh).2=0
 ·rw[Ex] at h⊢;exact GA (Ey h)
 ·have :(fA t leaf p fresh).1=[]:=by
   unfold fA at h⊢;split
   ·rfl
   ·rename_i h1;rw[if_neg h1] at h;split
    ·rfl
    ·rename_i h2;rw[if_neg h2] at h;split
     ·rfl
     ·rename_i h3;rw[if_neg h3] at h;simp only at h⊢;split
      ·rename_i h4;rw[if_pos h4] at h;exact absurd rfl h
      ·rfl
  rw[this];exact⟨Nat.zero_le _,fun n hn=>by cases hn⟩
theorem tb(dO:Γ 0=ef Sha.H0)(gg:Γ 1=Sha.K.map wV)(hG:Γ 3=fu.map pn)(c:oL)(hk:∀n∈c.t,n.key<2^64)(p:cS)(hpw:p.wf)(s:AS):
  aj prog Γ 4 [.agg c.cells,.agg p.cells] s (fun r s'=>r=.v (.bool true)):=by
 refine aa func4 rfl ntmps4 results4 (by simp) ?_;have haw:=fun s=>Aa (Γ:=Γ) dO gg hG s;have vS:=fun s=>Ab (Γ:=Γ) c s;have xfG:=fun(h:c.small)=>h.wide hk;have mb:=fun(h:c.small)(hp:p.steps.length≤2^40)s=>rb (Γ:=Γ) dO gg hG c.t (h.wide hk).1 (h.wide hk).2.1 (h.wide hk).2.2 c.leaf p hp c.fresh (by have:=h.2.2.2.1;omega) s;have hra:=fun(h:c.small)(hp:p.steps.length≤2^40)s=>uR (Γ:=Γ) dO gg c.t (h.wide hk).1 (h.wide hk).2.1 c.leaf p hp (fun q hq=>(hpw.2.1 q hq).1) c.fresh (by have:=h.2.2.2.1;omega) s;have hsa:=fun s=>Cw (Γ:=Γ) (fA c.t c.leaf p c.fresh).1 (fA c.t c.leaf p c.fresh).1 (GC ..) s;rw[decide_eq_true rfl] at hsa;simp only[←Ex] at hra;generalize fA c.t c.leaf p c.fresh=Q at *
 obtain⟨t,leaf,own,draw,ctx,fresh⟩:=c;obtain⟨pk,pp,ps⟩:=p;obtain⟨q1,q2⟩:=Q;simp only at mb hra hsa;have Df:(oL.mk t leaf own draw ctx fresh).cells=[aW t,.v (.int .i64 leaf),.v (.int .i64 own),al draw .any,al ctx .any,aF fresh .any]:=rfl;rw[Df] at vS⊢;unfold cS.cells at *
 simp only at mb hra⊢;unfold aW aF al at *
 generalize aK af.cells t=X at *
 generalize aK af.cells q1=Y at *
 generalize aK cb.cells ps=Z at *
 have f1:(q2==q2)=true:=(by simp);refine ic 2 3 (by decide) (by decide) (by decide) ?_;intro K hK;refine jM ?_;intro o1 h1 o2 h2;refine hK _ _ o1 o2 _ _ rfl rfl h1 (by rw[AS.gK];exact h2) ?_;clear hK K h1 h2;refine wK fun K hK=>?_;refine jQ fun K hK=>?_;refine ad (haw _) ?_;rintro r s1 ⟨rfl,rfl⟩;refine jM ?_;refine ad (vS _) ?_;rintro r s2 ⟨⟨v,rfl,hv⟩,rfl⟩;cases v with
 |false=>
  refine jR hK ?_;clear hK K;refine jE ?_;refine jK (haw _) ?_;rintro s3 rfl;refine jI ?_;exact⟨_,_,AV.aB.refl _,AS.le.refl _,rfl⟩
 |true=>
  have hs:=hv rfl;rcases tt2 (decide ((10:Int)<(ps.length:Int))) (decide ((100:Int)<(pp.length:Int))) with hd|hd|hd;case inr.inr=>
   have hp:ps.length≤2^40:=by
    simp only[decide_eq_false_iff_not] at hd;omega
   have c1:=mb hs hp;have c2:=hra hs hp;refine jV @hd hK ?_;clear hK K;refine jF ?_;refine ab ?_;refine hK _ _ ?_;clear hK K;refine jK (c1 _) ?_;rintro s3 rfl;refine jK (c2 _) ?_;rintro s4 rfl;refine jS @f1 fun K hK=>?_;refine ad (hsa _) ?_;rintro r s5 ⟨rfl,rfl⟩;refine jR hK ?_;clear hK K;refine jI ?_;exact⟨_,_,AV.aB.refl _,AS.le.refl _,rfl⟩
  all_goals
   refine jV @hd hK ?_;clear hK K;refine jE ?_;refine jK (haw _) ?_;rintro s3 rfl;refine jI ?_;exact⟨_,_,AV.aB.refl _,AS.le.refl _,rfl⟩
abbrev SR:Ty:=.slice 5 (.struct (.cons B2 (.cons Dc (.cons (.int .u64) (.cons Dc (.cons (.slice 1 B2) .nil))))))
theorem I0{gw:List AV}(h:cO (.struct (.cons SR (.cons B2 (.cons B2 (.cons Dc (.cons Dc (.cons (.slice 1 B2) .nil))))))) gw):∃c:oL,gw=c.cells∧∀n∈c.t,n.key<2^64:=by
  obtain⟨x1,y1,rfl,t1,h⟩:=cW (js h);obtain⟨x2,y2,rfl,t2,h⟩:=cW h;obtain⟨x3,y3,rfl,t3,h⟩:=cW h;obtain⟨x4,y4,rfl,t4,h⟩:=cW h;obtain⟨x5,y5,rfl,t5,h⟩:=cW h;obtain⟨x6,y6,rfl,t6,h⟩:=cW h;obtain rfl:=sU h;obtain⟨t,rfl,hk⟩:=cO.tree t1;obtain⟨n2,rfl,_⟩:=nf t2;obtain⟨n3,rfl,_⟩:=nf t3;obtain⟨l4,rfl,_⟩:=t4.bytes;obtain⟨l5,rfl,_⟩:=t5.bytes;obtain⟨l6,rfl⟩:=t6.ints;exact⟨⟨t,n2,n3,l4,l5,l6⟩,rfl,hk⟩
def Yr:List Nat:=[0,1,28,2,29,14,24,3,30,22,20,15,25,17,4,8,31,27,13,23,21,19,16,7,26,12,18,6,11,5,10,9]
def Γd(g:Nat):List AV:=if g=0 then[wV Sha.H0.a,wV Sha.H0.b,wV Sha.H0.c,wV Sha.H0.d,wV Sha.H0.e,wV Sha.H0.f,wV Sha.H0.g,wV Sha.H0.h] else if g=1 then Sha.K.map wV else if g=2 then Yr.map pn else if g=3 then fu.map pn else[]
abbrev Ed : List (String × DataW Unit):=[("math/bits.deBruijn32tab", Rows.laid_math_bits_deBruijn32tab),("math/bits.deBruijn64tab", Rows.laid_math_bits_deBruijn64tab),("engrosser/sha.rounds", Rows.laid_engrosser_sha_rounds),("engrosser/sha.start", Rows.laid_engrosser_sha_start)]
theorem kY{H:Type}{enc:TypeId×Value→H}{P:Program}{W:World}{base:Nat}{sp:Nat→Bool}{held:Bool}{fuel:Nat}{t e:TypeId}{n:Nat}{cs:List Value}{p:List MemPlace}{l:List Nat}{kd:IntKind}
    (hT:P.underlying t=some (.array n e)) (he:P.underlying e=some (.int kd)) (hc:P.cellsOf e=1)
    (h:DataW.trod enc P W base sp held fuel t cs=some (.agg (l.map fun(x:Nat)=>.lit (.int kd (x:Int))),p)):∀(i x:Nat),l[i]? =some x→cs[i]? =some (.int kd (x:Int)):=by
  obtain⟨xs,m,rfl,hx,hlen,hn,vq⟩:=DataW.trod_array hT h;simp only[Prod.mk.injEq,DataW.agg.injEq] at hx;intro i x hi;have h1:(l.map fun(x:Nat)=>DataW.lit (H:=H) (.int kd (x:Int)))[i]? =some (.lit (.int kd (x:Int))):=(by rw[List.getElem?_map,hi];rfl);rw[hx.1,List.getElem?_map] at h1;cases hy:xs[i]? with
  |none=>rw[hy] at h1;cases h1
  |some y=>
    rw[hy] at h1;simp only[Option.map_some,Option.some.injEq] at h1;have bJ:=(List.getElem?_eq_some_iff.1 hy).1;have h2:=vq i (by omega);rw[hy,hc,Nat.mul_one] at h2;obtain⟨k,e1,e2,_⟩:=DataW.trod_int he h2;rw[e2] at h1;simp only[DataW.lit.injEq,Lit.int.injEq,true_and] at h1;have h3:(List.take 1 (List.drop i cs))[0]? =some (.int kd k):=(by rw[e1];rfl);rw[List.getElem?_take,if_pos (by decide),List.getElem?_drop,Nat.add_zero,h1] at h3;exact h3
theorem OX : prog.globalNamed "engrosser/sha.rounds" = some 1:=by kernel_rfl
theorem SS : prog.globalNamed "engrosser/sha.start" = some 0:=by kernel_rfl
theorem xb4 : prog.globalNamed "math/bits.deBruijn32tab" = some 2:=by kernel_rfl
theorem xb5 : prog.globalNamed "math/bits.deBruijn64tab" = some 3:=by kernel_rfl
theorem OY:(prog.globals[1]?).map (·.type)=some 246:=by kernel_rfl
theorem SU:(prog.globals[0]?).map (·.type)=some 215:=by kernel_rfl
theorem xb6:(prog.globals[2]?).map (·.type)=some 251:=by kernel_rfl
theorem xb7:(prog.globals[3]?).map (·.type)=some 232:=by kernel_rfl
theorem tE{kd:IntKind}{W:World}{g:Nat}{cs:Array Value}{l:List Nat}(hc:∀i,W.cell? ⟨g,i,none⟩=cs[i]?)(h:∀(i x:Nat),l[i]? =some x→cs.toList[i]? =some (.int kd (x:Int))):
    ∃vs,au (G0 W) (l.map fun(x:Nat)=>.v (.int kd (x:Int))) vs∧gp (G0 W) g 0 vs:=by
  refine⟨l.map fun(x:Nat)=>.int kd (x:Int),?_,?_⟩
  · have:=au.Dk (G:=G0 W) (l.map fun(x:Nat)=>Value.int kd (x:Int));rwa [List.map_map] at this
  · intro j u hu;rw[List.getElem?_map] at hu;cases hj:l[j]? with
    |none=>rw[hj] at hu;cases hu
    |some x=>
      rw[hj] at hu;simp only[Option.map_some,Option.some.injEq] at hu;have:=h j x hj;show W.cell? ⟨g,0+j,none⟩=some u;rw[Nat.zero_add,hc j,←hu];simpa using this
theorem Oj{W:World}(h:laidMetH prog Ed W):∀g,∃vs,au (G0 W) (Γd g) vs∧gp (G0 W) g 0 vs:=by
  rw[MakeChecks.laidMetH_plain _ _ _ (by kernel_rfl)] at h;obtain⟨ps,⟨g0,t0,cs0,f0,p0,q0,hg0,iJ,FT,Ys,⟨g1,t1,QA,f1,p1,q1,T2,NF,hv1,R5,⟨g2,t2,NY,f2,p2,q2,Oh,OH,hv2,N9,⟨g3,t3,cs3,f3,p3,q3,hg3,ht3,hv3,hd3,_,_⟩,_⟩,_⟩,_⟩,_,_⟩:=h;obtain rfl:=Option.some.inj (xb4.symm.trans hg0);obtain rfl:=Option.some.inj (xb5.symm.trans T2);obtain rfl:=Option.some.inj (OX.symm.trans Oh);obtain rfl:=Option.some.inj (SS.symm.trans hg3);obtain rfl:=Option.some.inj (xb6.symm.trans iJ);obtain rfl:=Option.some.inj (xb7.symm.trans NF);obtain rfl:=Option.some.inj (OY.symm.trans OH);obtain rfl:=Option.some.inj (SU.symm.trans ht3);have h2:=tE (World.var?_cell hg0 FT) (kY (l:=Yr) underlying251 underlying5 T.c5 Ys);have h3:=tE (World.var?_cell T2 hv1) (kY (l:=fu) underlying232 underlying5 T.c5 R5);have h1:=tE (World.var?_cell Oh hv2) (kY (l:=Sha.K) underlying246 underlying214 T.Cg N9);have h0:=tE (World.var?_cell hg3 hv3) (kY (l:=Sha.H0.list) underlying215 underlying214 T.Cg hd3);intro g;by_cases e0:g=0
  · subst e0;exact h0
  · by_cases e1:g=1
    · subst e1;exact h1
    · by_cases e2:g=2
      · subst e2;exact h2
      · by_cases e3:g=3
        · subst e3;exact h3
        · refine⟨[],?_,fun j u h=>by simp at h⟩;simp[Γd,e0,e1,e2,e3,au]
theorem KI(os:Os)(args:Array Value):laidMetH prog Ed ((World.doorLaid prog 400 os).forCall (fun _ _=>0) ⟨#[],args,[]⟩).memory:=by
  rw[MakeChecks.laidMetH_plain _ _ _ (by kernel_rfl)];exact laidMet_of_run' 8 (by kernel_rfl) (by kernel_rfl)
set_option maxRecDepth 100000
def Yt:List Char:=[Cnn 104,Cnn 97,Cnn 114,Cnn 110,Cnn 101,Cnn 115,Cnn 115,Cnn 32,Cnn 97,Cnn 57,Cnn 98,Cnn 52,Cnn 52,Cnn 102,Cnn 55,Cnn 102,Cnn 53,Cnn 55,Cnn 57,Cnn 98,Cnn 98,Cnn 48,Cnn 54,Cnn 101,Cnn 48,Cnn 101,Cnn 51,Cnn 51,Cnn 101,Cnn 98,Cnn 102,Cnn 102,Cnn 98,Cnn 48,Cnn 52,Cnn 54,Cnn 56,Cnn 100,Cnn 97,Cnn 54,Cnn 48,Cnn 98,Cnn 55,Cnn 57,Cnn 97,Cnn 55,Cnn 54,Cnn 57,Cnn 51,Cnn 100,Cnn 57,Cnn 51,Cnn 51,Cnn 50,Cnn 54,Cnn 97,Cnn 97,Cnn 97,Cnn 50,Cnn 57,Cnn 48,Cnn 97,Cnn 57,Cnn 56,Cnn 49,Cnn 51,Cnn 55,Cnn 102,Cnn 51,Cnn 49,Cnn 101,Cnn 50,Cnn 32,Cnn 99,Cnn 117,Cnn 116,Cnn 32,Cnn 97,Cnn 116,Cnn 32,Cnn 101,Cnn 110,Cnn 103,Cnn 114,Cnn 111,Cnn 115,Cnn 115,Cnn 101,Cnn 114,Cnn 47,Cnn 101,Cnn 110,Cnn 103,Cnn 114,Cnn 111,Cnn 115,Cnn 115,Cnn 101,Cnn 114,Cnn 108,Cnn 97,Cnn 119,Cnn 50,Cnn 49,Cnn 46,Cnn 80,Cnn 97,Cnn 116,Cnn 104,Cnn 77,Cnn 97,Cnn 107,Cnn 101,Cnn 115,Cnn 32,Cnn 101,Cnn 110,Cnn 103,Cnn 114,Cnn 111,Cnn 115,Cnn 115,Cnn 101,Cnn 114,Cnn 47,Cnn 101,Cnn 110,Cnn 103,Cnn 114,Cnn 111,Cnn 115,Cnn 115,Cnn 101,Cnn 114,Cnn 108,Cnn 97,Cnn 119,Cnn 50,Cnn 49,Cnn 46,Cnn 80,Cnn 97,Cnn 116,Cnn 104,Cnn 65,Cnn 112,Cnn 112,Cnn 108,Cnn 105,Cnn 101,Cnn 115,Cnn 32,Cnn 101,Cnn 110,Cnn 103,Cnn 114,Cnn 111,Cnn 115,Cnn 115,Cnn 101,Cnn 114,Cnn 47,Cnn 101,Cnn 110,Cnn 103,Cnn 114,Cnn 111,Cnn 115,Cnn 115,Cnn 101,Cnn 114,Cnn 108,Cnn 97,Cnn 119,Cnn 50,Cnn 49,Cnn 46,Cnn 80,Cnn 97,Cnn 116,Cnn 104,Cnn 76,Cnn 101,Cnn 97,Cnn 114,Cnn 110,Cnn 115,Cnn 32,Cnn 101,Cnn 110,Cnn 103,Cnn 114,Cnn 111,Cnn 115,Cnn 115,Cnn 101,Cnn 114,Cnn 47,Cnn 101,Cnn 110,Cnn 103,Cnn 114,Cnn 111,Cnn 115,Cnn 115,Cnn 101,Cnn 114,Cnn 108,Cnn 97,Cnn 119,Cnn 50,Cnn 49,Cnn 46,Cnn 80,Cnn 97,Cnn 116,Cnn 104,Cnn 69,Cnn 110,Cnn 116,Cnn 101,Cnn 114,Cnn 115,Cnn 32,Cnn 101,Cnn 110,Cnn 103,Cnn 114,Cnn 111,Cnn 115,Cnn 115,Cnn 101,Cnn 114,Cnn 47,Cnn 101,Cnn 110,Cnn 103,Cnn 114,Cnn 111,Cnn 115,Cnn 115,Cnn 101,Cnn 114,Cnn 108,Cnn 97,Cnn 119,Cnn 50,Cnn 49,Cnn 46,Cnn 80,Cnn 97,Cnn 116,Cnn 104,Cnn 82,Cnn 101,Cnn 97,Cnn 100,Cnn 115]
def uS:List (List Char):=[[Cnn 104,Cnn 97,Cnn 114,Cnn 110,Cnn 101,Cnn 115,Cnn 115],
  [Cnn 97,Cnn 57,Cnn 98,Cnn 52,Cnn 52,Cnn 102,Cnn 55,Cnn 102,Cnn 53,Cnn 55,Cnn 57,Cnn 98,Cnn 98,Cnn 48,Cnn 54,Cnn 101,Cnn 48,Cnn 101,Cnn 51,Cnn 51,Cnn 101,Cnn 98,Cnn 102,Cnn 102,Cnn 98,Cnn 48,Cnn 52,Cnn 54,Cnn 56,Cnn 100,Cnn 97,Cnn 54,Cnn 48,Cnn 98,Cnn 55,Cnn 57,Cnn 97,Cnn 55,Cnn 54,Cnn 57,Cnn 51,Cnn 100,Cnn 57,Cnn 51,Cnn 51,Cnn 50,Cnn 54,Cnn 97,Cnn 97,Cnn 97,Cnn 50,Cnn 57,Cnn 48,Cnn 97,Cnn 57,Cnn 56,Cnn 49,Cnn 51,Cnn 55,Cnn 102,Cnn 51,Cnn 49,Cnn 101,Cnn 50],
  [Cnn 99,Cnn 117,Cnn 116],
  [Cnn 97,Cnn 116],
  [Cnn 101,Cnn 110,Cnn 103,Cnn 114,Cnn 111,Cnn 115,Cnn 115,Cnn 101,Cnn 114,Cnn 47,Cnn 101,Cnn 110,Cnn 103,Cnn 114,Cnn 111,Cnn 115,Cnn 115,Cnn 101,Cnn 114,Cnn 108,Cnn 97,Cnn 119,Cnn 50,Cnn 49,Cnn 46,Cnn 80,Cnn 97,Cnn 116,Cnn 104,Cnn 77,Cnn 97,Cnn 107,Cnn 101,Cnn 115],
  [Cnn 101,Cnn 110,Cnn 103,Cnn 114,Cnn 111,Cnn 115,Cnn 115,Cnn 101,Cnn 114,Cnn 47,Cnn 101,Cnn 110,Cnn 103,Cnn 114,Cnn 111,Cnn 115,Cnn 115,Cnn 101,Cnn 114,Cnn 108,Cnn 97,Cnn 119,Cnn 50,Cnn 49,Cnn 46,Cnn 80,Cnn 97,Cnn 116,Cnn 104,Cnn 65,Cnn 112,Cnn 112,Cnn 108,Cnn 105,Cnn 101,Cnn 115],
  [Cnn 101,Cnn 110,Cnn 103,Cnn 114,Cnn 111,Cnn 115,Cnn 115,Cnn 101,Cnn 114,Cnn 47,Cnn 101,Cnn 110,Cnn 103,Cnn 114,Cnn 111,Cnn 115,Cnn 115,Cnn 101,Cnn 114,Cnn 108,Cnn 97,Cnn 119,Cnn 50,Cnn 49,Cnn 46,Cnn 80,Cnn 97,Cnn 116,Cnn 104,Cnn 76,Cnn 101,Cnn 97,Cnn 114,Cnn 110,Cnn 115],
  [Cnn 101,Cnn 110,Cnn 103,Cnn 114,Cnn 111,Cnn 115,Cnn 115,Cnn 101,Cnn 114,Cnn 47,Cnn 101,Cnn 110,Cnn 103,Cnn 114,Cnn 111,Cnn 115,Cnn 115,Cnn 101,Cnn 114,Cnn 108,Cnn 97,Cnn 119,Cnn 50,Cnn 49,Cnn 46,Cnn 80,Cnn 97,Cnn 116,Cnn 104,Cnn 69,Cnn 110,Cnn 116,Cnn 101,Cnn 114,Cnn 115],
  [Cnn 101,Cnn 110,Cnn 103,Cnn 114,Cnn 111,Cnn 115,Cnn 115,Cnn 101,Cnn 114,Cnn 47,Cnn 101,Cnn 110,Cnn 103,Cnn 114,Cnn 111,Cnn 115,Cnn 115,Cnn 101,Cnn 114,Cnn 108,Cnn 97,Cnn 119,Cnn 50,Cnn 49,Cnn 46,Cnn 80,Cnn 97,Cnn 116,Cnn 104,Cnn 82,Cnn 101,Cnn 97,Cnn 100,Cnn 115]]
theorem Yu:prog.initOrder=String.ofList Yt:=by kernel_rfl
theorem words:wordsSigns prog.initOrder.toList=uS:=by
  rw[Yu,String.toList_ofList];kernel_rfl
theorem both{a b:Bool}(h:a=true)(k:b=true):(a&&b)=true:=by rw[h,k];rfl
theorem Om{a b:Bool}(h:b=a):(a==b)=true:=by rw[h];cases a<;>rfl
theorem Oo{a b:Option Make}(h:a=b):(a==b)=true:=by rw[h];exact beq_self_eq_true _
theorem Bm (r : List (List Char)) : stripLifts liftWords ("cut".toList :: r) = ([], "cut".toList :: r):=by kernel_rfl
theorem Bn {P : Program} {r} (h : behindMainWord (wordsSigns P.initOrder.toList) = "cut".toList :: r) : P.headLifts = []:=by
  unfold Program.headLifts;rw[h,Bm];kernel_rfl
theorem LK {P : Program} {r} (h : behindMainWord (wordsSigns P.initOrder.toList) = "cut".toList :: r) : P.make = some .cut:=by
  unfold Program.make;rw[h,Bn h];kernel_rfl
theorem Jk {P : Program} {r} (h : behindMainWord (wordsSigns P.initOrder.toList) = "cut".toList :: r) : P.liftsFinal = false:=by
  unfold Program.liftsFinal;rw[h,Bn h];kernel_rfl
theorem LM {P : Program} {s r} (h : wordsSigns P.initOrder.toList = "harness".toList :: s :: r) (hs : isSumSigns s = true) : P.mainIs = some (true,s):=by
  unfold Program.mainIs;rw[h];dsimp only;rw[hs];kernel_rfl
theorem OZ {P : Program} {r} (h : behindMainWord (wordsSigns P.initOrder.toList) = "cut".toList :: r) (hl : P.laysLater = false) (hr : P.bearsReflect = false) (hd : P.doorFits [] = true) : P.mayEnter = true:=by
  unfold Program.mayEnter;rw[h,hl,hr];dsimp only;rw[Bm];dsimp only;rw[hd];kernel_rfl
theorem behind : behindMainWord (wordsSigns prog.initOrder.toList) = "cut".toList :: uS.drop 3:=(congrArg behindMainWord words).trans (by kernel_rfl)
theorem KJ:prog.make=some .cut:=LK behind
theorem KM : prog.mainIs = some (true, "a9b44f7f579bb06e0e33ebffb0468da60b79a7693d93326aaa290a98137f31e2".toList):=LM (r:=uS.drop 2) (words.trans (by kernel_rfl)) (by kernel_rfl)
theorem Ol:prog.mayEnter=true:=OZ behind (by kernel_rfl) (by kernel_rfl) (by kernel_rfl)
theorem On:prog.liftsFinal=false:=Jk behind
end Go.Proofs.YtbiefppedlodiaaGreatDoor
