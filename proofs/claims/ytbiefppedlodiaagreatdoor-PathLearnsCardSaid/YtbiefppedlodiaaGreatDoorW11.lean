/- Contracts of functions, each walked once; each theorem states its conditions. -/
import Derived.Test.YtbiefppedlodiaaGreatDoorAMp6
import Derived.Test.YtbiefppedlodiaaGreatDoorW1
import Derived.Test.YtbiefppedlodiaaGreatDoorW10
import Derived.Test.YtbiefppedlodiaaGreatDoorW6
import Derived.Test.YtbiefppedlodiaaGreatDoorW4
import Derived.Test.YtbiefppedlodiaaGreatDoorW2
import Derived.Test.YtbiefppedlodiaaGreatDoorRows
import Derived.ProofKit
import Derived.LaidMore
import Derived.MakeChecks
import Derived.OpenShut
open Char renaming ofNat → Cnn
set_option linter.unusedSimpArgs false
set_option linter.unusedVariables false
open Nat renaming reduceLT → Na, reduceLeDiff → Nb, reduceEqDiff → Nc, reduceAdd → Nk, reduceMul → Nf, reducePow → Ng, reduceSub → Nh, reduceBEq → Nz
open Int renaming reduceLT → Za, reduceLE → Zb, reduceToNat → Zc
open And renaming intro → Ai
open Go.AM renaming ashift → Qa, aconv → Qb, aindexAddr → Qc, aindex → Qd, aslice → Qe, abuiltin → Qf, awp_reg_seq → wS, awp_reg_end → wE, awp_seq_k → wK, awp_cond_k → wC
open Go.AM.AV renaming cells → Qg, one → Qh
set_option maxRecDepth 100000
set_option maxHeartbeats 8000000
namespace Go.Proofs.YtbiefppedlodiaaGreatDoor
open Go Go.AM Go.Proofs Tryz
variable{Γ:Nat→List AV}
def tv:List UInt8:=List.replicate 32 0
theorem GX:cw [98]=1143308707886319510:=by decide+kernel
theorem LZ:u6 tv=1668877266923750098:=by decide+kernel
theorem L0:pX (b7 tv 1)=954470548532752739:=by decide+kernel
theorem JF:cw (iO tv 0 2)=1379976697818645679:=by decide+kernel
theorem Po:3^1143308707886319510%PP=1403620569307361687:=(Hpke.EU 64 3 1143308707886319510 (by decide)).symm.trans (by decide+kernel)
theorem JG:3^1668877266923750098%PP=1108681655847164022:=(Hpke.EU 64 3 1668877266923750098 (by decide)).symm.trans (by decide+kernel)
theorem JH:3^954470548532752739%PP=316409525784712861:=(Hpke.EU 64 3 954470548532752739 (by decide)).symm.trans (by decide+kernel)
theorem GY:3^1379976697818645679%PP=2058778986153334545:=(Hpke.EU 64 3 1379976697818645679 (by decide)).symm.trans (by decide+kernel)
theorem EV:3^cw [98]%PP=1403620569307361687:=(congrArg (fun e=>3^e%PP) GX).trans Po
theorem JI(d:List UInt8):jv d=3^u6 d%PP:=by unfold jv;exact Eq.refl _
theorem Pp(d:List UInt8):lZ d=3^pX d%PP:=by unfold lZ;exact Eq.refl _
theorem EW:jv tv=1108681655847164022:=(JI tv).trans ((congrArg (fun e=>3^e%PP) LZ).trans JG)
theorem JJ:lZ (b7 tv 1)=316409525784712861:=(Pp _).trans ((congrArg (fun e=>3^e%PP) L0).trans JH)
theorem JK:iN (iO tv 0 2)=2058778986153334545:=(L4 _).trans ((congrArg (fun e=>3^e%PP) JF).trans GY)
def tA:List ah:=[⟨1,[97],9,[],[]⟩,ah.gT,⟨1,[98],1403620569307361687,[],[]⟩]
theorem nv:bf tA∧cB tA 0∧cB tA 1∧aI tA=2∧eI tA∧LD 0 2 1=0∧az 0 2=[1]∧bY (nodeAt 0 2 0)=2∧fG tA [] (lv 2) 2=[2]:=by decide+kernel
theorem GZ:jx tA 0 [] 0=[2]:=by
 unfold jx bC;rw[nv.2.2.2.1,nv.2.2.2.2.2.2.2.1,if_pos ⟨by decide,by decide,nv.1⟩];exact nv.2.2.2.2.2.2.2.2
theorem vb:(az 0 (aI tA)).length=1:=by rw[nv.2.2.2.1,nv.2.2.2.2.2.2.1];rfl
theorem EX:∀n∈tA,lX n:=by unfold tA lX;decide
theorem CO:(l8 tA (0:Nat) tv [] []).2=0:=by
 have hm:lj tA (0:Nat)=0:=fX.2 ⟨nv.1,nv.2.1⟩;have hG:oM tA 0 tv [] 1=true:=by
  unfold oM;rw[List.all_eq_true];intro i hi;obtain rfl:i=0:=(by have:=List.mem_range.1 hi;omega);rw[GZ];unfold stepG;rw[show(0:Nat)+1=1 from rfl,JJ,Bool.and_eq_true,List.all_eq_true];refine⟨by decide,fun n hn=>?_⟩;obtain rfl:n=2:=(by simpa using hn);unfold vV;rw[show(2:Int).toNat=2 from rfl,JK];decide
 unfold l8;rw[if_neg (fun k=>k hm),if_neg (by decide),EW,if_neg (by decide),Int.toNat_natCast,vb,if_neg (by rw[hG];decide)]
theorem Ts(a c:Int)(b d:Nat):DR prog 67 .eql [.v (.int .i64 a),.v (.int .u64 b)] [.v (.int .i64 c),.v (.int .u64 d)]=some (.v (.bool (decide (a=c∧b=d)))):=by
 have h:DR prog 67 .eql [.v (.int .i64 a),.v (.int .u64 b)] [.v (.int .i64 c),.v (.int .u64 d)]=some (.v (.bool ((a==c)&&(((b:Nat):Int)==((d:Nat):Int)&&true)))):=by
  kernel_rfl
 rw[h];refine congrArg (fun b=>some (AV.v (Value.bool b))) ?_;rw[Bool.eq_iff_iff];simp only[Bool.and_true,Bool.and_eq_true,beq_iff_eq,decide_eq_true_iff];omega
theorem Ah(dU:Γ 0=eA Sha.H0)(gy:Γ 1=Sha.K.map wV)(hG:Γ 3=fi.map oJ)(s:AS):aj prog Γ 8 [] s (fun r s'=>r=.v (.bool true)∧s'=s):=by
 refine aa func8 rfl ntmps8 results8 (by simp) ?_;have c1:=fun s=>p7 (Γ:=Γ) [98] (by decide) s;have c2:=fun s=>mH (Γ:=Γ) (cw [98]) (by rw[GX];decide) s;have c3:=fun s=>tK (Γ:=Γ) dU gy hG tA nv.2.2.2.2.1 (by decide) EX (0:Nat) tv [] (by decide) (by decide) [] (by decide) s;have c4:=fun s=>rp (Γ:=Γ) dU gy hG tA nv.2.2.2.2.1 (by decide) EX 0 tv [] (by decide) [] (by decide) CO 1 nv.2.2.1 (by decide) (by simp) 0 (by rw[nv.2.2.2.1];exact nv.2.2.2.2.2.1) (by rw[vb];decide) 2 (by rw[GZ];simp)
  (cw [98]) (by rw[EV];rfl) (by rw[GX];decide) s
 rw[CO,(qA CO).2.2.2.2] at c3;rw[EV] at c2;rw[vb] at c4;rw[Int.toNat_natCast] at c3;have hH1:cu 0 tv (az 0 (aI tA)) 1=[⟨(2*0:Nat),u6 tv⟩,r3 tv (az 0 (aI tA)) 0]:=(by unfold cu;simp only[List.range_succ,List.range_zero,List.nil_append,List.map_cons,List.map_nil]);obtain⟨V,hV⟩:∃V,V=fk tA 0 tv [] []:=⟨_,rfl⟩;have v1:V.p.steps=[gI tA tv [] 0 [2]]:=by
  rw[hV];unfold fk bQ;simp only;rw[vb];simp only[List.range_succ,List.range_zero,List.nil_append,List.map_cons,List.map_nil];rw[GZ]
 have v2:V.t.length=3:=by
  rw[hV];unfold fk gY eJ;simp only[List.length_set];rw[gJ];decide
 have v3:V.held=[⟨(2*0:Nat),u6 tv⟩,r3 tv (az 0 (aI tA)) 0]:=by
  rw[hV];unfold fk;simp only;rw[vb,hH1]
 have v4:V.GR=b7 tv (1+1):=by
  rw[hV];unfold fk;simp only;rw[vb]
 rw[←hV] at c3 c4;rw[hH1] at c4;simp only[List.drop_succ_cons,List.drop_zero] at c4;have v5:(gI tA tv [] 0 [2]).dy.length=1:=u9 ..;clear hV hH1;generalize gI tA tv [] 0 [2]=S at *
 generalize r3 tv (az 0 (aI tA)) 0=h1 at *
 generalize u6 tv=ok at *
 generalize b7 tv (1+1)=cm at *
 generalize cw [98]=kb at *
 obtain⟨⟨pk,pp,ps⟩,vt,vh,vc⟩:=V;obtain⟨sk,sl⟩:=S;obtain⟨hn,hk⟩:=h1;simp only at v1 v2 v3 v4 v5;subst v1 v3 v4;have wL:aW tA=.sl 5 3 [.v (.int .i64 1),.sl 1 1 [.v (.int .u8 97)] .any,.v (.int .u64 9),.sl 1 0 [] .any,.sl 1 0 [] .any,.v (.int .i64 0),.sl 1 0 [] .any,.v (.int .u64 0),.sl 1 0 [] .any,.sl 1 0 [] .any,.v (.int .i64 1),.sl 1 1 [.v (.int .u8 98)] .any,.v (.int .u64 (1403620569307361687:Nat)),.sl 1 0 [] .any,.sl 1 0 [] .any] .any:=rfl;have htw:(AV.sl 5 3 [.v (.int .i64 1),.sl 1 1 [.v (.int .u8 97)] .new,.v (.int .u64 9),.v (.slice none 0 0),.v (.slice none 0 0),.v (.int .i64 0),.v (.slice none 0 0),.v (.int .u64 0),.v (.slice none 0 0),.v (.slice none 0 0),.v (.int .i64 1),.sl 1 1 [.v (.int .u8 98)] .new,.v (.int .u64 (1403620569307361687:Nat)),.v (.slice none 0 0),.v (.slice none 0 0)] .new).aE (aW tA):=by
  rw[wL];exact fun G v h=>AV.bN G v (AV.tm (.cons (AV.aE.refl _) (.cons AV.bN (.cons (AV.aE.refl _) (.cons AV.aM (.cons AV.aM (.cons (AV.aE.refl _) (.cons AV.aM (.cons (AV.aE.refl _) (.cons AV.aM (.cons AV.aM (.cons (AV.aE.refl _) (.cons AV.bN (.cons (AV.aE.refl _) (.cons AV.aM (.cons AV.aM .nil))))))))))))))) G v h)
 obtain⟨TN,hTN⟩:∃TN,TN=AV.sl 5 3 [.v (.int .i64 1),.sl 1 1 [.v (.int .u8 97)] .new,.v (.int .u64 9),.v (.slice none 0 0),.v (.slice none 0 0),.v (.int .i64 0),.v (.slice none 0 0),.v (.int .u64 0),.v (.slice none 0 0),.v (.slice none 0 0),.v (.int .i64 1),.sl 1 1 [.v (.int .u8 98)] .new,.v (.int .u64 (1403620569307361687:Nat)),.v (.slice none 0 0),.v (.slice none 0 0)] .new:=⟨_,rfl⟩;rw[←hTN] at htw;have RN:∀(o:Nat)(s:AS),s.aw o=none→aj prog Γ 10 [TN,.v (.int .i64 0),.ig o 0 1 32 32,.v (.slice none 0 0),.v (.slice none 0 0)] (s.set o (List.replicate 32 (.v (.int .u8 0)))) (fun r s'=>r=yy ⟨⟨pk,pp,[⟨sk,sl⟩]⟩,vt,[⟨(2*0:Nat),ok⟩,⟨hn,hk⟩],vc⟩ 0∧s'=s):=fun o s ho=>by
  have hz:(tv.map ae)=List.replicate 32 (.v (.int .u8 0)):=(by unfold tv;rw[List.map_replicate];rfl);refine aj.settled (b8.outer (cs:=List.replicate 32 (.v (.int .u8 0))) (rest:=[]) (by rw[List.append_nil];exact AS.af _ _ _) (by simp)) ?_;rw[AS.drop_set ho];have:=aj.gF (.cons htw (.cons (AV.aE.refl _) (.cons (AV.aE.refl _) (.cons AV.aM (.cons AV.aM .nil))))) (c3 s);unfold al at this;rw[hz] at this;exact this
 have UU:∀s,aj prog Γ 27 [TN,.v (.int .i64 0),.agg (dN.cells ⟨pk,pp,[⟨sk,sl⟩]⟩),.v (.int .i64 1),.sl 2 1 [.v (.int .i64 2),.v (.int .u64 kb)] .new,.v (.slice none 0 0),.v (.slice none 0 0)] s
   (fun r s'=>r=.eu [eg [⟨(2:Nat),kb⟩,⟨hn,hk⟩],al vc .any,.v (.int .i64 0)]∧s'=s):=fun s=>
  aj.gF (.cons htw (.cons (AV.aE.refl _) (.cons (AV.aE.refl _) (.cons (AV.aE.refl _) (.cons AV.bN (.cons AV.aM (.cons AV.aM .nil))))))) (c4 s)
 clear c3 c4 wL htw;have L5:∀a:AV,List.replicate 1 a=[a]:=fun _=>rfl;have YY:∀a b c d e:AV,nG 15 [a,b,c,d,e]=[a,b,c,d,e,a,b,c,d,e,a,b,c,d,e]:=(fun _ _ _ _ _=>by simp[nG,List.range_succ]);have xx:∀a b:AV,nG 2 [a,b]=[a,b]:=fun _ _=>rfl;unfold yy dN.cells at RN;unfold dN.cells at UU;unfold aW at RN;simp only at RN UU;rw[v2] at RN;simp only[eg,List.length_cons,List.length_nil,Nat.zero_add,Nat.reduceAdd] at RN UU;have hX:aK cy.cells [⟨sk,sl⟩]=[.v (.int .u64 (sk:Nat)),.sl 2 1 (aK eH.cells sl) .any]:=(by rw[←v5];rfl);have hY1:aK bu.cells [⟨(2*0:Nat),ok⟩,⟨hn,hk⟩]=[.v (.int .i64 0),.v (.int .u64 ok),.v (.int .i64 hn),.v (.int .u64 hk)]:=rfl;have hY2:aK bu.cells [⟨(2:Nat),kb⟩,⟨hn,hk⟩]=[.v (.int .i64 2),.v (.int .u64 kb),.v (.int .i64 hn),.v (.int .u64 hk)]:=rfl;rw[hX,hY1] at RN;rw[hX,hY2] at UU;generalize aK eH.cells sl=SL at *
 generalize aK ah.cells vt=X at *
 unfold al at RN UU;clear hX hY1 hY2 v5 v2;refine jA ?_;refine jK (c1 _) ?_;rintro s1 rfl;refine jS (Ai @L5 @YY) fun K hK=>?_;refine ad (c2 _) ?_;rintro r s2 ⟨rfl,rfl⟩;refine jV (Ai @L5 @YY) hK ?_;clear hK K;rw[←hTN];refine aX 3 (by decide) ?_;intro K hK;refine jM ?_;refine⟨by decide,by decide,fun o ho=>?_⟩;refine ad (RN o _ ho) ?_;rintro r s3 ⟨rfl,rfl⟩;refine jM ?_;intro o3 q3;refine hK _ _ o3 _ rfl q3 ?_;clear hK K q3;refine jS (Ai @L5 @xx) fun K hK=>?_;refine ad (UU _) ?_;rintro r s4 ⟨rfl,rfl⟩;refine jR hK ?_;clear hK K;have wM:(((1:Nat):Int)==1)=true:=rfl;have Ko:((0:Int)==0)=true:=rfl;have e33:(((3:Nat):Int)==3)=true:=rfl;have e22:(((2:Nat):Int)==2)=true:=rfl;have h01:(0:Int)<((1:Nat):Int):=(by decide);have h02:(1:Int)<((2:Nat):Int):=(by decide);have hse:DR prog 67 .eql [.v (.int .i64 hn),.v (.int .u64 hk)] [.v (.int .i64 hn),.v (.int .u64 hk)]=some (.v (.bool true)):=(by rw[Ts,decide_eq_true ⟨rfl,rfl⟩]);have BZ:((vc==vc)=true):=beq_self_eq_true vc;refine bj T.mixed [] (by kernel_rfl) ?_;intro K hK;refine jV (Ai @wM (Ai @Ko (Ai @e33 (Ai @e22 (Ai @h01 (Ai @h02 (Ai @hse (Ai @dC (Ai @di @BZ))))))))) hK ?_;clear hK K;exact jJ
structure oN where
 t:List ah
 leaf:Int
 own:Int
 draw:List UInt8
 ctx:List UInt8
 fresh:List Int
def oN.cells(c:oN):List AV:=[aW c.t,.v (.int .i64 c.leaf),.v (.int .i64 c.own),al c.draw .any,al c.ctx .any,aG c.fresh .any]
def oN.small(c:oN):Prop:=c.t.length≤31∧c.draw.length≤40∧c.ctx.length≤100∧c.fresh.length≤5∧∀n∈c.t,vd n
theorem oN.small.wide{c:oN}(h:c.small)(hk:∀n∈c.t,n.key<2^64):eI c.t∧c.t.length≤2^30∧(∀n∈c.t,lX n):=by
 refine⟨⟨by have:=h.1;omega,fun n hn=>⟨by have:=(h.2.2.2.2 n hn).2.2;omega,hk n hn⟩⟩,by have:=h.1;omega,fun n hn=>?_⟩;obtain⟨a,b,c⟩:=h.2.2.2.2 n hn;unfold lX;omega
theorem Aj(c:oN)(s:AS):aj prog Γ 9 [.agg c.cells] s (fun r s'=>(∃v,r=.v (.bool v)∧(v=true→c.small))∧s'=s):=by
 refine aa func9 rfl ntmps9 results9 (by simp) ?_;obtain⟨t,leaf,own,draw,ctx,fresh⟩:=c;unfold oN.small;simp only[oN.cells];have cT:=fun(i:Nat)(hi:i<t.length)=>dh hi;unfold aW al aG;generalize hX:aK ah.cells t=X at *
 refine aX 1 (by decide) ?_;intro K hK;refine jM ?_;intro o ho;refine hK _ _ o _ rfl ho ?_;clear hK K ho;refine wK fun K hK=>?_;rcases tt4 (decide ((31:Int)<(t.length:Int))) (decide ((40:Int)<(draw.length:Int))) (decide ((100:Int)<(ctx.length:Int))) (decide ((5:Int)<(fresh.length:Int))) with hd|hd|hd|hd|hd;case inr.inr.inr.inr=>
  refine wS fun K hK=>?_;simp (config := { maxSteps := 1000000 }) only [↓DN,Qa,Qb,Qc,Qd,Qe,Qf,Qg,Qh,reduceCtorEq,↓reduceIte,Na,Nb,Nc,Nk,Nf,Ng,Nh,Za,Zb,Zc,TT,hd];refine hK _ _ ?_;clear hK K;refine jF ?_;refine ab ?_;refine hK _ _ ?_;clear hK K;simp only [decide_eq_false_iff_not] at hd;obtain ⟨d1,d2,d3,d4⟩:=hd;refine wK fun K hK=>?_;refine jA ?_;refine ag ?_;refine aD (fun E s2=>∃ i : Nat,i≤t.length∧(∀ b ∈ t.take i,vd b)∧E 3 = .v (.int .i64 i)∧E 1 = .cN [.sl 5 t.length X .any,.v (.int .i64 leaf),.v (.int .i64 own),.sl 1 draw.length (draw.map ae) .any,.sl 1 ctx.length (ctx.map ae) .any,.sl 1 fresh.length (fresh.map aJ) .any]∧s2 = s)
   (fun E _=>match E 3 with |.v (.int _ i)=>t.length-i.toNat|_=>0) ?_ ?_
  ·exact⟨0,Nat.zero_le _,by simp,rfl,rfl,rfl⟩
  ·rintro E1 s4 ⟨i,hi,bS,g3,g1,rfl⟩ -
   refine wK fun K2 aU=>?_;by_cases aY:i<t.length
   ·refine jB (Ai @g3 (Ai @g1 (Ai @au (decide_eq_true aY)))) ?_;refine jE ?_;refine ab ?_;refine aU _ _ ?_;clear aU K2;refine wK fun K3 bq=>?_;refine ag ?_;have cA:(0:Int)≤(i:Int):=(by omega);have iL:=cT i aY;have eo:=List.take_succ_eq_append_getElem aY;rw[mZ aY] at iL;generalize t[i]=N at *
    obtain⟨nk,nm,ny,ll,nu⟩:=N;unfold ah.cells at iL;unfold al aG at iL;rcases tt3 (decide ((40:Int)<(nm.length:Int))) (decide ((60:Int)<(ll.length:Int))) (decide ((40:Int)<(nu.length:Int))) with hb|hb|hb|hb;case inr.inr.inr=>
     refine wS fun K hK=>?_;simp (config := { maxSteps := 1000000 }) only [↓DN,Qa,Qb,Qc,Qd,Qe,Qf,Qg,Qh,reduceCtorEq,↓reduceIte,Na,Nb,Nc,Nk,Nf,Ng,Nh,Za,Zb,Zc,TT,g3,g1,cA,au,aY,iL,hb];refine hK _ _ ?_;clear hK K;refine jF ?_;refine ab ?_;simp only [aq,aA,if_true,if_false];refine bq _ _ ?_;clear bq K3;refine jD (Ai @g3 (bd i (by omega))) ?_;simp only [decide_eq_false_iff_not] at hb;refine ⟨⟨i + 1,by omega,?_,rfl,g1,rfl⟩,?_⟩
     ·rw[eo];intro x hx;rw[List.mem_append,List.mem_singleton] at hx;rcases hx with hx|rfl
      ·exact bS x hx
      ·exact⟨by simp only;omega,by simp only;omega,by simp only;omega⟩
     ·simp only[g3,aB,↓reduceIte];omega
    all_goals
     refine wS fun K hK=>?_;simp (config := { maxSteps := 1000000 }) only [↓DN,Qa,Qb,Qc,Qd,Qe,Qf,Qg,Qh,reduceCtorEq,↓reduceIte,Na,Nb,Nc,Nk,Nf,Ng,Nh,Za,Zb,Zc,TT,g3,g1,cA,au,aY,iL,hb];refine hK _ _ ?_;clear hK K;refine jE ?_;refine jA ?_;refine jI ?_;exact ⟨_,_,AV.aE.refl _,AS.le.refl _,⟨false,rfl,fun h=>by cases h⟩,rfl⟩
   ·refine jB (Ai @g3 (Ai @g1 (Ai @au (decide_eq_false aY)))) ?_;refine jF ?_;refine aC ?_;simp only[aA,aq,if_true];refine hK _ _ ?_;clear hK aU K2 K;refine jA ?_;refine jI ?_;rw[List.take_of_length_le (by omega)] at bS;exact⟨_,_,AV.aE.refl _,AS.le.refl _,⟨true,rfl,fun _=>⟨by omega,by omega,by omega,by omega,bS⟩⟩,rfl⟩
 all_goals
  refine wS fun K hK=>?_;simp (config := { maxSteps := 1000000 }) only [↓DN,Qa,Qb,Qc,Qd,Qe,Qf,Qg,Qh,reduceCtorEq,↓reduceIte,Na,Nb,Nc,Nk,Nf,Ng,Nh,Za,Zb,Zc,TT,hd];refine hK _ _ ?_;clear hK K;refine jE ?_;refine jA ?_;refine jI ?_;exact ⟨_,_,AV.aE.refl _,AS.le.refl _,⟨false,rfl,fun h=>by cases h⟩,rfl⟩
theorem Tt(x y:bu):DR prog 67 .neq x.cells y.cells=some (.v (.bool (decide (x≠y)))):=by
 have h:DR prog 67 .neq x.cells y.cells=some (.v (.bool (!((x.node==y.node)&&(((x.key:Nat):Int)==((y.key:Nat):Int)&&true))))):=by
  kernel_rfl
 rw[h];refine congrArg (fun b=>some (AV.v (Value.bool b))) ?_;obtain⟨a,b⟩:=x;obtain⟨c,d⟩:=y;rw[Bool.eq_iff_iff];simp only[Bool.and_true,Bool.not_eq_true',Bool.and_eq_false_iff,beq_eq_false_iff_ne,ne_eq,bu.mk.injEq,decide_eq_true_iff,not_and];constructor
 ·rintro(h|h) q
  ·exact absurd q h
  ·omega
 ·intro h;by_cases q:a=c
  ·exact .inr (by have:=h q;omega)
  ·exact .inl q
theorem tN(a b:List bu)(ha:a.length≤2^60)(s:AS):aj prog Γ 14 [eg a,eg b] s (fun r s'=>r=.v (.bool (decide (a=b)))∧s'=s):=by
 refine aa func14 rfl ntmps14 results14 (by simp) ?_;have ra:=fun i(h:i<a.length)=>mW (c:=bu.cells) (k:=2) (fun _=>rfl) h;have rb:=fun i(h:i<b.length)=>mW (c:=bu.cells) (k:=2) (fun _=>rfl) h;unfold eg;generalize aK bu.cells a=XA at *
 generalize aK bu.cells b=XB at *
 refine jA ?_;refine wK fun K hK=>?_;by_cases hl:a.length=b.length
 ·have e1:((a.length:Int) != (b.length:Int))=false:=(by rw[hl];simp);refine jB @e1 ?_;refine jF ?_;refine ab ?_;refine hK _ _ ?_;clear hK K;refine wK fun K hK=>?_;refine jA ?_;refine ag ?_;refine aD (fun E s2=>∃i:Nat,i≤a.length∧a.take i=b.take i∧E 5=.v (.int .i64 i)∧E 0=.sl 2 a.length XA .any∧E 1=.sl 2 b.length XB .any∧s2=s)
   (fun E _=>match E 5 with |.v (.int _ i)=>a.length-i.toNat|_=>0) ?_ ?_
  ·exact⟨0,Nat.zero_le _,rfl,rfl,rfl,rfl,rfl⟩
  ·rintro E1 s2 ⟨i,hi,heq,g5,g0,g1,rfl⟩ -
   refine wK fun K2 aU=>?_;by_cases aY:i<a.length
   ·have DD:i<b.length:=(by omega);have cA:(0:Int)≤(i:Int):=(by omega);have hta:=List.take_succ_eq_append_getElem aY;have htb:=List.take_succ_eq_append_getElem DD;have qa:=ra i aY;have qb:=rb i DD;have cY:=Tt (a[i]) (b[i]);have zF:a[i]≠b[i]→a≠b:=fun h q=>h (by simp only[q]);refine jB (Ai @g5 (Ai @g0 (Ai @au (decide_eq_true aY)))) ?_;refine jE ?_;refine ab ?_;refine aU _ _ ?_;clear aU K2;refine wK fun K3 bq=>?_;refine ag ?_;generalize a[i]=p at *
    generalize b[i]=q at *
    have xz:p.cells.length=2:=rfl;have hql:q.cells.length=2:=rfl;have hpt:List.take 2 p.cells=p.cells:=rfl;have hqt:List.take 2 q.cells=q.cells:=rfl;by_cases Tu:p=q
    ·rw[decide_eq_false (fun k=>k Tu)] at cY;refine bj T.mixed [] (by kernel_rfl) ?_;intro K hK;refine jV (Ai @g5 (Ai @g0 (Ai @g1 (Ai @au (Ai @aY (Ai @DD (Ai @cA (Ai @qa (Ai @qb (Ai @xz (Ai @hql (Ai @hpt (Ai @hqt @cY))))))))))))) hK ?_;clear hK K;refine jF ?_;refine ab ?_;simp only[aq,aA,if_true,if_false];refine bq _ _ ?_;clear bq K3;refine jD (Ai @g5 (bd i (by omega))) ?_;refine⟨⟨i+1,by omega,by rw[hta,htb,heq,Tu],rfl,g0,g1,rfl⟩,?_⟩;simp only[g5,aB,↓reduceIte];omega
    ·rw[decide_eq_true Tu] at cY;refine bj T.mixed [] (by kernel_rfl) ?_;intro K hK;refine jV (Ai @g5 (Ai @g0 (Ai @g1 (Ai @au (Ai @aY (Ai @DD (Ai @cA (Ai @qa (Ai @qb (Ai @xz (Ai @hql (Ai @hpt (Ai @hqt @cY))))))))))))) hK ?_;clear hK K;refine jE ?_;refine jA ?_;refine jI ?_;rw[decide_eq_false (zF Tu)];exact jW ⟨rfl,rfl⟩
   ·refine jB (Ai @g5 (Ai @g0 (Ai @au (decide_eq_false aY)))) ?_;refine jF ?_;refine aC ?_;simp only[aA,aq,if_true];refine hK _ _ ?_;clear hK aU K2 K;rw[List.take_of_length_le (by omega),List.take_of_length_le (by omega)] at heq;refine jA ?_;refine jI ?_;rw[decide_eq_true heq];exact jW ⟨rfl,rfl⟩
 ·have e1:((a.length:Int) != (b.length:Int))=true:=by
   rw[bne_iff_ne];omega
  refine jB @e1 ?_;refine jE ?_;refine jA ?_;refine jI ?_;rw[decide_eq_false (fun q=>hl (by rw[q]))];exact jW ⟨rfl,rfl⟩
theorem JL(x own:Int):ep x own=(decide ((iD x).1≤own)&&decide (own≤(iD x).2)):=by
 unfold ep;rw[Bool.eq_iff_iff,decide_eq_true_iff,Bool.and_eq_true,decide_eq_true_iff,decide_eq_true_iff]
theorem yB(t:List ah)(ht:t.length≤2^61)(bT:Fit (aI t))(lf ow a:Nat)(ev:lf<aI t)(how:ow<aI t)(cY:ow≠lf)(cT:LD lf (aI t) ow=(a:Int))(s:AS):
  aj prog Γ 22 [aW t,.v (.int .i64 lf),.v (.int .i64 ow)] s (fun r s'=>r=.eu [.v (.int .i64 a),.v (.int .i64 (bY (nodeAt lf (aI t) a):Nat))]∧s'=s):=by
 refine aa func22 rfl ntmps22 results22 (by simp) ?_;obtain⟨a',ha,LF,iL⟩:=Ij bT ev how cY;obtain rfl:a'=a:=(by omega);have oZ:=bT.le;have cD:=fun s=>kM (Γ:=Γ) t ht s;have jb:=fun s=>wI (Γ:=Γ) lf (aI t) bT ev s;have Cx:=fun x s=>nq (Γ:=Γ) x s;have xcF:=fun i(h:i<(az lf (aI t)).length)s=>tO (Γ:=Γ) (nodeAt lf (aI t) i) (aI t) bT (pZ bT ev h).1 (pZ bT ev h).2.1 s;have xz:=fC bT ev;have hS:∀i,i<(az lf (aI t)).length→(List.take 1 (List.drop i ((aP (az lf (aI t))).map aJ)))[0]? =some (AV.v (.int .i64 ((aP (az lf (aI t))).getD i 0))):=by
  intro i hi;simp[List.getElem?_take,aP,hi,aJ]
 have hgN:∀i,i<(az lf (aI t)).length→(aP (az lf (aI t))).getD i 0=((nodeAt lf (aI t) (i+1):Nat):Int):=by
  intro i hi;simp only[nodeAt,aP,List.getD,List.getElem?_map];cases(az lf (aI t))[i]? <;>rfl
 have UI:nodeAt lf (aI t) 0=2*lf:=rfl;have hfs:=ks (fun i=>ep ((aP (az lf (aI t))).getD i 0) (ow:Nat)) (aP (az lf (aI t))).length 0;rw[LF] at hfs;have Bn:=br (az lf (aI t));unfold aW at *
 unfold aG at jb;rw[Bn] at jb;generalize aI t=L at *
 generalize aK ah.cells t=X at *
 generalize hPe:az lf L=P at *
 obtain⟨Q8,hbn⟩:ep ((aP P).getD a' 0) (ow:Nat)=true∧∀m,m<a'→ep ((aP P).getD m 0) (ow:Nat)=false:=by
  rcases hfs with⟨h,-⟩|⟨j,-,-,h1,h2,h3⟩
  ·omega
  ·obtain rfl:a'=j:=(by omega);exact⟨h1,fun m hm=>h3 m (Nat.zero_le _) hm⟩
 clear hfs;generalize aP P=U at *
 refine jA ?_;refine jQ fun K hK=>?_;refine ad (cD _) ?_;rintro r s1 ⟨rfl,rfl⟩;refine jM ?_;refine ad (jb _) ?_;rintro r s2 ⟨rfl,rfl⟩;refine jR hK ?_;clear hK K;refine jB (bZ lf (by omega)) ?_;refine wK fun K hK=>?_;refine jA ?_;refine ag ?_;refine aD (fun E s3=>∃i:Nat,i≤a'∧E 10=.v (.int .i64 i)∧E 9=.v (.int .i64 (nodeAt lf L i:Nat))∧E 8=.sl 1 P.length (U.map aJ) .any∧E 0=.sl 5 t.length X .any∧E 2=.v (.int .i64 ow)∧s3=s2)
  (fun E _=>match E 10 with |.v (.int _ i)=>a'+1-i.toNat|_=>0) ?_ ?_
 ·exact⟨0,Nat.zero_le _,rfl,(by simp only[aB,Nc,↓reduceIte];rw[UI]),rfl,rfl,rfl,rfl⟩
 ·rintro E1 s3 ⟨i,hi,g10,g9,g8,g0,g2,rfl⟩ -
  have Jn:i<P.length:=(by omega);have bJ:((i:Nat):Int)<((P.length:Nat):Int):=(by omega);have cA:(0:Int)≤((i:Nat):Int):=(by omega);have N7:=hS i Jn;have QX:=hgN i Jn;have c1:=fun s=>Cx (U.getD i 0) s;have c2:=fun s=>xcF i Jn s;have hb:=JL (U.getD i 0) (ow:Nat);have hf0:=hbn i;have Tv:i=a'→ep (U.getD i 0) (ow:Nat)=true:=(fun e=>by subst e;exact Q8);generalize U.getD i 0=u at *
  refine wK fun K2 aU=>?_;refine jB (Ai @g10 (Ai @g8 (decide_eq_true bJ))) ?_;refine jE ?_;refine ab ?_;refine aU _ _ ?_;clear aU K2;refine wK fun K3 bq=>?_;refine ag ?_;refine jS (Ai @g10 (Ai @g8 (Ai @bJ (Ai @cA @N7)))) fun K hK=>?_;refine ad (c1 _) ?_;rintro r s4 ⟨rfl,rfl⟩;refine jR hK ?_;clear hK K;refine wK fun K4 dM=>?_;by_cases hia:i<a'
  ·have hf:=hf0 hia;rw[hb,Bool.and_eq_false_iff] at hf;have hJ:∀(E:Env),E 10=.v (.int .i64 i)→E 8=.sl 1 P.length (U.map aJ) .any→E 0=.sl 5 t.length X .any→E 2=.v (.int .i64 ow)→K4 E s4:=by
    intro E f10 f8 f0 f2;refine dM _ _ ?_;clear dM K4;refine jD (Ai @f8 (Ai @f10 (Ai @bJ (Ai @cA @N7)))) ?_;refine bq _ _ ?_;clear bq K3;refine jD (Ai @f10 (bd i (by omega))) ?_;refine⟨⟨i+1,by omega,rfl,?_,f8,f0,f2,rfl⟩,?_⟩
    ·simp only[aB,Nc,↓reduceIte];rw[QX]
    ·simp only[g10,aB,↓reduceIte];omega
   clear dM bq;rcases ff2 (decide ((iD u).1≤(ow:Int))) (decide ((ow:Int)≤(iD u).2)) with hd|hd|hd
   ·refine jB (Ai @g2 @hd) ?_;refine jF ?_;refine ab ?_;exact hJ _ g10 g8 g0 g2
   ·refine jB (Ai @g2 @hd) ?_;refine jF ?_;refine ab ?_;exact hJ _ g10 g8 g0 g2
   ·rw[hd.1,hd.2] at hf;rcases hf with hf|hf<;>cases hf
  ·obtain rfl:i=a':=(by omega);have Q8:=Tv rfl;rw[hb,Bool.and_eq_true] at Q8;refine jB (Ai @g2 @Q8) ?_;refine jE ?_;refine jS (Ai @g9 @g0) fun K hK=>?_;refine ad (cD _) ?_;rintro r s5 ⟨rfl,rfl⟩;refine jM ?_;refine ad (c2 _) ?_;rintro r s6 ⟨rfl,rfl⟩;refine jR hK ?_;clear hK K;refine jB @g10 ?_;exact jJ
theorem G7{n:ah}(h:n.right):n.iA.length≤2^61∧n.key<2^64:=by
  have hu:=(lC h).1;refine⟨by omega,?_⟩;rcases js h with hk|hk|hk
  · rw[(jr hk).1 h];decide
  · have:=((fg hk).1 h).2.2.1.2.1;omega
  · have:=((fT hk).1 h).2.1.2.1;omega
theorem Bt{t:List ah}(hr:bf t):t.length≤63:=by
  rcases bG (t:=t) with h|h
  · exact absurd h hr.1
  · have:=h.1.le;omega
theorem r4{t:List ah}(hr:bf t):eI t:=by
  refine⟨by have:=Bt hr;omega,fun n hn=>?_⟩;obtain⟨i,hi,rfl⟩:=List.mem_iff_getElem.1 hn;have:=hr.nd i;rw[mZ hi] at this;exact G7 this
theorem EY{leaf l:Nat}(hl:Fit l)(h:leaf<l){i:Nat}(hi:i<(az leaf l).length):(az leaf l).getD i 0%2=1:=by
  have:=tD hl h _ (List.getElem_mem hi);simpa[List.getD,hi] using this.2.1
theorem Bu{t:List ah}{leaf:Nat}(bT:Fit (aI t))(ev:leaf<aI t)(keys:List Nat)(fresh:List Int):∀i,i≤(az leaf (aI t)).length→∀a,nd (mX t leaf keys fresh i).1 (2*a)=nd t (2*a)
  |0,_,_=>rfl
  |i+1,h,a=>by
    have ih:=Bu bT ev keys fresh i (by omega) a;have ho:=EY bT ev (i:=(az leaf (aI t)).length-1-i) (by omega);simp only[mX];rw[Go.AM.oe,if_neg (fun q=>by have:=q.1;omega),ih]
theorem EZ{t:List ah}{leaf:Nat}(bT:Fit (aI t))(kq:t.length=2*aI t-1)(ev:leaf<aI t)(keys:List Nat)(fresh:List Int):∀i,i≤(az leaf (aI t)).length→∀j,(az leaf (aI t)).length-i≤j→j<(az leaf (aI t)).length→(nd (mX t leaf keys fresh i).1 ((az leaf (aI t)).getD j 0)).key=keys.getD j 0
  |0,_,j,h1,h2=>by omega
  |i+1,h,j,h1,h2=>by
    have rm:=Ik bT ev (i:=(az leaf (aI t)).length-1-i) (by omega);simp only[mX];rw[Go.AM.oe];by_cases e:j=(az leaf (aI t)).length-1-i
    · subst e;rw[if_pos ⟨rfl,by rw[gJ];omega⟩]
    · have cY:(az leaf (aI t)).getD ((az leaf (aI t)).length-1-i) 0≠(az leaf (aI t)).getD j 0:=by
        have fO:(az leaf (aI t)).length-1-i<(az leaf (aI t)).length:=(by omega);have hnd:=List.pairwise_iff_getElem.1 (G8 bT ev) _ _ fO h2 (by omega);simpa only[List.getD,List.getElem?_eq_getElem h2,List.getElem?_eq_getElem fO,Option.getD_some] using hnd
      rw[if_neg (fun q=>cY q.1)];exact EZ bT kq ev keys fresh i (by omega) j (by omega) h2
theorem Pq{t u:List ah}(h:u.length=t.length):aI u=aI t:=by unfold aI;rw[h]
theorem Bv(t:List ah)(leaf key:Nat)(keys:List Nat)(fresh:List Int):(eJ t leaf key keys fresh).length=t.length:=by
  unfold eJ;simp only[List.length_set];exact gJ ..
theorem om(d:List UInt8)(m:Nat):(bI d m).length=m:=by
  unfold bI;rw[List.length_map,List.length_range]
theorem tP(d:List UInt8){m j:Nat}(h:j<(bI d m).length):(bI d m)[j]=lZ (b7 d (j+1)):=by
  simp only[bI,List.getElem_map,List.getElem_range]
theorem Fa(d:List UInt8){m j:Nat}(h:j<m):(bI d m).getD j 0=lZ (b7 d (j+1)):=by
  have h':j<(bI d m).length:=(by rw[om];exact h);rw[List.getD_eq_getElem?_getD,List.getElem?_eq_getElem h',Option.getD_some,tP]
theorem CP{t:List ah}{lf:Nat}{d:List UInt8}{fresh:List Int}{m:Nat}(h4:oM t lf d fresh m=true):∀k∈bI d m,iX k=true:=by
  intro k hk;obtain⟨i,hi,he⟩:=List.mem_iff_getElem.1 hk;rw[←he,tP];rw[om] at hi;exact Bq (yz h4 hi)
theorem L6{t:List ah}{leaf:Nat}(bT:Fit (aI t))(kq:t.length=2*aI t-1)(ev:leaf<aI t)(key:Nat)(keys:List Nat)(fresh:List Int):
    (∀i:Int,cB t i→cB (eJ t leaf key keys fresh) i)∧∀j,j<(az leaf (aI t)).length→(nd (eJ t leaf key keys fresh) ((az leaf (aI t)).getD j 0)).key=keys.getD j 0:=by
  have he:=Bu bT ev keys fresh _ (Nat.le_refl _);have hwk:=EZ bT kq ev keys fresh _ (Nat.le_refl _);have uX:=gJ t leaf keys fresh (az leaf (aI t)).length;have hlen:=Bv t leaf key keys fresh;have hnd:∀j,nd (eJ t leaf key keys fresh) j=if 2*leaf=j∧2*leaf<t.length then{nd t (2*leaf) with key:=key,parent:=(mX t leaf keys fresh (az leaf (aI t)).length).2} else nd (mX t leaf keys fresh (az leaf (aI t)).length).1 j:=by
    intro j;unfold eJ;simp only;rw[Go.AM.oe,he,uX]
  generalize eJ t leaf key keys fresh=W at *
  generalize mX t leaf keys fresh (az leaf (aI t)).length=V at *
  refine⟨?_,?_⟩
  · intro i hi;refine⟨hi.1,by rw[hlen];exact hi.2.1,?_⟩;rw[hnd];split
    · rename_i q;show(nd t (2*leaf)).kind=1;rw[q.1];exact hi.2.2
    · rw[he];exact hi.2.2
  · intro j hj;have ho:=EY bT ev hj;rw[hnd,if_neg (fun q=>by have:=q.1;omega)];exact hwk j (by omega) hj
theorem Fb{t:List ah}{lf:Nat}{d ctx:List UInt8}{fresh:List Int}(h:(l8 t lf d ctx fresh).2=0):
    bf (gY t lf d fresh)∧aI (gY t lf d fresh)=aI t∧(∀i:Int,cB t i→cB (gY t lf d fresh) i)∧∀j,j<(az lf (aI t)).length→(nd (gY t lf d fresh) ((az lf (aI t)).getD j 0)).key=lZ (b7 d (j+1)):=by
  obtain⟨h1,-,h3,h4,-⟩:=qA h;rw[Int.toNat_natCast] at h4;obtain⟨hr,hm⟩:=fX.1 h1;obtain⟨bT,kq⟩:Fit (aI t)∧t.length=2*aI t-1:=by
    rcases bG (t:=t) with h|h
    · exact absurd h hr.1
    · exact h
  have oZ:=bT.le;have ev:lf<aI t:=by
    have:=hm.2.1;omega
  have uB:=om d (az lf (aI t)).length;have Kh:=CP h4;have hkg:=fun j(hj:j<(az lf (aI t)).length)=>Fa d hj;unfold gY;generalize bI d (az lf (aI t)).length=KS at *
  generalize jv d=op at *
  obtain⟨w1,w2⟩:=L6 bT kq ev op KS fresh;refine⟨?_,Pq (Bv ..),w1,fun j hj=>by rw[w2 j hj,hkg j hj]⟩;rw[O7 Kh (by omega)];exact GN hr hm h3 Kh (by omega)
theorem Fc{t:List ah}{lf:Nat}{d ctx:List UInt8}{fresh:List Int}(h:(l8 t lf d ctx fresh).2=0){ow:Nat}(DA:cB t ow)(cY:ow≠lf){a:Nat}(ha:LD lf (aI t) ow=(a:Int))(lM:a<(az lf (aI t)).length):
    rX (gY t lf d fresh) lf ow (b7 d (a+1))=((cu lf d (az lf (aI t)) (az lf (aI t)).length).drop (1+a),b7 d ((az lf (aI t)).length+1),0):=by
  obtain⟨u1,u2,u3,u4⟩:=Fb h;obtain⟨h1,-⟩:=qA h;obtain⟨hr,hm⟩:=fX.1 h1;have S1:lj (gY t lf d fresh) lf=0:=fX.2 ⟨u1,u3 _ hm⟩;have Tg:z8 (gY t lf d fresh) (lf:Int) (ow:Int)=(az lf (aI t)).drop a:=by
    unfold z8;rw[Int.toNat_natCast,Int.toNat_natCast,u2,ha,Int.toNat_natCast]
  have H3:pW (b7 d (a+1)) ((az lf (aI t)).drop a).length (CB (gY t lf d fresh) ((az lf (aI t)).drop a))=true:=ET d a _ _ fun i hi=>by
    rw[List.length_drop] at hi;unfold CB;have e1:((az lf (aI t)).drop a).getD i 0=(az lf (aI t)).getD (a+i) 0:=(by simp[List.getD,List.getElem?_drop]);rw[e1,u4 (a+i) (by omega)]
  have hct:iH (b7 d (a+1)) ((az lf (aI t)).drop a) (CB (gY t lf d fresh) ((az lf (aI t)).drop a))=((cu lf d (az lf (aI t)) (az lf (aI t)).length).drop (1+a),b7 d ((az lf (aI t)).length+1),true):=by
    unfold iH;rw[if_pos H3,yA d lf _ a (by omega),p5,List.length_drop,show a+1+((az lf (aI t)).length-a)=(az lf (aI t)).length+1 by omega]
  unfold rX;rw[if_neg (by rw[S1];simp),if_neg (by rw[not_or,Classical.not_not];exact⟨u3 _ DA,by omega⟩),Tg,hct,if_pos ⟨rfl,lB d a⟩]
def qJ(S:List (List UInt8))(i:Nat):List UInt8:=UInt8.ofNat i::(if i<S.length∧(S.getD i []).length≤40 then S.getD i [] else[])
theorem L7(S:List (List UInt8))(i:Nat):(qJ S i).length≤41:=by
  unfold qJ;split
  · rename_i h;rw[List.length_cons];omega
  · simp
def kS(S:List (List UInt8))(i:Nat):Nat:=cw (qJ S i)
theorem L8(S:List (List UInt8))(i:Nat):1≤kS S i∧kS S i≤2305843009213693949∧kS S i<2^64:=by
  have h:=qz (qJ S i);have h1:1≤cw (qJ S i):=(by unfold cw;exact Nat.le_add_right _ _);have h2:cw (qJ S i)≤2305843009213693949:=by
    unfold cw;have:=Nat.mod_lt (gX (Kdf.label (qJ S i) r7 [] 8)) (show 2305843009213693949>0 by decide);omega
  unfold kS;exact⟨h1,h2,by omega⟩
def It(S:List (List UInt8))(n:Nat):List Nat:=(List.range n).map (kS S)
theorem L9(S:List (List UInt8))(n:Nat):(It S (n+1)).map dP=(It S n).map dP++[.v (.int .u64 (kS S n:Nat))]:=by
  unfold It;rw[List.range_succ,List.map_append,List.map_append];rfl
def TK(t:List ah)(S:List (List UInt8)):Nat→List ah
  |0=>t
  |i+1=>if(nd t i).kind≠0 then(TK t S i).set i {nd t i with key:=3^kS S i%PP} else TK t S i
theorem yC(t:List ah)(S:List (List UInt8)):∀i,(TK t S i).length=t.length
  |0=>rfl
  |i+1=>by
    simp only[TK];split
    · rw[List.length_set,yC t S i]
    · exact yC t S i
theorem tQ(t:List ah)(S:List (List UInt8)):∀i j,i≤j→nd (TK t S i) j=nd t j
  |0,_,_=>rfl
  |i+1,j,h=>by
    simp only[TK];split
    · rw[Go.AM.oe,if_neg (fun q=>by have:=q.1;omega)];exact tQ t S i j (by omega)
    · exact tQ t S i j (by omega)
theorem CQ(t:List ah)(S:List (List UInt8)):∀i j,(nd (TK t S i) j).kind=(nd t j).kind
  |0,_=>rfl
  |i+1,j=>by
    simp only[TK];split
    · rw[Go.AM.oe];split
      · rename_i q;rw[←q.1]
      · exact CQ t S i j
    · exact CQ t S i j
theorem Ma(t:List ah)(S:List (List UInt8)):∀i,i≤t.length→∀j,j<i→(nd t j).kind≠0→(nd (TK t S i) j).key=3^kS S j%PP
  |0,_,j,h,_=>by omega
  |i+1,hi,j,h,hk=>by
    by_cases e:j=i
    · subst e;simp only[TK];rw[if_pos hk,Go.AM.oe,if_pos ⟨rfl,by rw[yC];omega⟩]
    · have ih:=Ma t S i (by omega) j (by omega) hk;simp only[TK];split
      · rw[Go.AM.oe,if_neg (fun q=>e q.1.symm)];exact ih
      · exact ih
theorem Iu{t:List ah}(ht:eI t)(S:List (List UInt8)):∀i,eI (TK t S i)
  |0=>ht
  |i+1=>by
    have ih:=Iu ht S i;simp only[TK];split
    · refine⟨by rw[List.length_set];exact ih.1,fun n hn=>?_⟩;rcases List.mem_or_eq_of_mem_set hn with h|rfl
      · exact ih.2 n h
      · exact⟨(ht.nd i).1,CR _⟩
    · exact ih
theorem Pr{T:List ah}{u:Nat}(hu:u<T.length)(k:Nat)(rest:List AV):
    (aK ah.cells T++rest).set (u*5+2) (.v (.int .u64 k))=aK ah.cells (T.set u {nd T u with key:=k})++rest:=by
  have h:=yD hu k (nd T u).parent rest;rw[←h];have h0:=tR (c:=ah.cells) (k:=5) (fun n=>rfl) hu (nd T u) rest;have hs:T.set u (nd T u)=T:=(by rw[mZ hu];exact List.set_getElem_self hu);rw[hs] at h0;have hl:u*5+3<(aK ah.cells T++rest).length:=by
    rw[List.length_append,Go.AM.cj jy];omega
  have hg:(aK ah.cells T++rest)[u*5+3]? =some (al (nd T u).parent .any):=by
    rw[←h0];obtain⟨a,b,c,d,e⟩:=nd T u;simp only[ah.cells,bp,List.getElem?_set,List.length_set,Nat.add_assoc,Nat.reduceAdd];have e1:¬u*5+4=u*5+3:=(by omega);rw[if_neg e1,if_pos trivial,if_pos hl]
  generalize aK ah.cells T++rest=R at *
  apply List.ext_getElem?;intro i;simp only[List.getElem?_set,List.length_set];by_cases e3:u*5+3=i
  · subst e3;have e2:¬u*5+2=u*5+3:=(by omega);simp only[e2,if_false,if_true,if_pos hl];exact hg
  · simp only[if_neg e3]
theorem JM(l:List bu){k:Nat}(h:k≤l.length):List.drop (k*2) (List.take (l.length*2) (aK bu.cells l))=aK bu.cells (l.drop k):=by
  have hl:(aK bu.cells l).length=l.length*2:=Go.AM.cj (k:=2) (fun _=>rfl) l;rw[List.take_of_length_le (by omega)];have e:aK bu.cells l=aK bu.cells (l.take k)++aK bu.cells (l.drop k):=(by rw[←ke,List.take_append_drop]);have hk:(aK bu.cells (l.take k)).length=k*2:=(by rw[Go.AM.cj (k:=2) (fun _=>rfl),List.length_take,Nat.min_eq_left h]);rw[e,List.drop_left' hk]
theorem vZ{t:List ah}(hr:bf t):∀n∈t,lX n:=by
  intro n hn;obtain⟨i,hi,rfl⟩:=List.mem_iff_getElem.1 hn;have h:=hr.nd i;rw[mZ hi] at h;have hu:=(lC h).1;unfold lX;rcases js h with hk|hk|hk
  · rw[(jr hk).1 h];decide
  · have h1:=(fg hk).1 h;have h2:=h1.2.2.1.2.2;omega
  · have h1:=(fT hk).1 h;have h2:=h1.2.1.2.2;omega
def Ps(S:List (List UInt8)):AV:=.sl 1 S.length (S.map fun l=>al l .any) .any
theorem yE(a b:AV):nG 2 [a,b]=[a,b]:=rfl
theorem uV(dU:Γ 0=eA Sha.H0)(gy:Γ 1=Sha.K.map wV)(hG:Γ 3=fi.map oJ)(c:oN)(hk:∀n∈c.t,n.key<2^64)(S:List (List UInt8))(s:AS):
  aj prog Γ 5 [.agg c.cells,Ps S] s (fun r s'=>r=.v (.bool true)):=by
 refine pJ func5 rfl ntmps5 results5 (by simp) ?_
 have YZ:=fun s=>Ah (Γ:=Γ) dU gy hG s
 have JN:=fun s=>Aj (Γ:=Γ) c s
 have Y0:=fun(h:c.small)=>h.wide hk
 have p8:=fun(h:c.small)s=>nw (Γ:=Γ) c.t (h.wide hk).1 s
 obtain⟨t,leaf,own,draw,ctx,fresh⟩:=c
 simp only at hk p8
 have DE:(oN.mk t leaf own draw ctx fresh).cells=[aW t,.v (.int .i64 leaf),.v (.int .i64 own),al draw .any,al ctx .any,aG fresh .any]:=rfl
 have kG:(aK ah.cells t).all AV.one=true:=by
  rw[List.all_eq_true]
  intro c hc
  simp only[aK,List.mem_flatten,List.mem_map] at hc
  obtain⟨_,⟨n,-,rfl⟩,hc⟩:=hc
  simp only[ah.cells,List.mem_cons,List.not_mem_nil,or_false] at hc
  rcases hc with rfl|rfl|rfl|rfl|rfl<;>rfl
 rw[DE] at JN⊢
 unfold aW aG al at JN
 unfold Ps aW aG al
 unfold aW at p8
 have N5:∀i,i<S.length→(List.take 1 (List.drop i (S.map fun l=>AV.sl 1 l.length (l.map ae) .any)))[0]? =some (AV.sl 1 (S.getD i []).length ((S.getD i []).map ae) .any):=by
  intro i hi
  simp[List.getElem?_take,hi]
 generalize hSS:S.map (fun l=>AV.sl 1 l.length (l.map ae) .any)=SC at *
 refine vS 2 (by decide) ?_
 intro K hK
 simp only[↓DM,bE,DX,Nz,↓DN,Qa,Qb,Qc,Qd,Qe,Qf,Qg,Qh,reduceCtorEq,↓reduceIte,Na,Nb,Nc,Nk,Nf,Ng,Nh,Za,Zb,Zc,TT]
 intro o ho
 refine hK _ _ o _ (by simp only[aB,Nc,↓reduceIte]) ho ?_
 clear hK K ho
 refine cf ?_
 intro K1 fQ
 refine jQ fun K hK=>?_
 refine ad (YZ _) ?_
 rintro r s1 ⟨rfl,rfl⟩
 simp only[↓DM,bE,DX,Nz,↓DN,Qa,Qb,Qc,Qd,Qe,Qf,Qg,Qh,reduceCtorEq,↓reduceIte,Na,Nb,Nc,Nk,Nf,Ng,Nh,Za,Zb,Zc,TT]
 refine ad (JN _) ?_
 rintro r s2 ⟨⟨v,rfl,hv⟩,rfl⟩
 cases v with
 |false=>
  refine jR hK ?_;clear hK K
  refine jE ?_
  refine jK (YZ _) ?_;rintro s3 rfl
  refine jI ?_
  exact⟨_,_,AV.aE.refl _,AS.le.refl _,rfl⟩
 |true=>
  have hs:=hv rfl
  by_cases h40:S.length≤40
  ·have RO:=p8 hs
   have RP:¬((40:Int)<(S.length:Int)):=by omega
   simp only[↓DM,bE,DX,Nz,↓DN,Qa,Qb,Qc,Qd,Qe,Qf,Qg,Qh,reduceCtorEq,↓reduceIte,Na,Nb,Nc,Nk,Nf,Ng,Nh,Za,Zb,Zc,TT,decide_eq_false RP]
   refine ad (RO _) ?_
   rintro r s3 ⟨rfl,rfl⟩
   by_cases ie:bf t
   ·rw[decide_eq_true ie]
    refine jR hK ?_;clear hK K
    refine jF ?_
    refine ab ?_
    refine fQ _ _ ?_;clear fQ K1 RO p8 JN hv YZ
    have xcr:=Bt ie
    have iG:t.length≠0:=by
     rcases bG (t:=t) with h|h
     ·exact absurd h ie.1
     ·have:=h.1.le
      omega
    refine cf ?_
    intro K1 fQ
    refine oH rfl (by decide) ?_
    intro ops
    simp only[↓DM,bE,DX,Nz,↓DN,Qa,Qb,Qc,Qd,Qe,Qf,Qg,Qh,reduceCtorEq,↓reduceIte,Na,Nb,Nc,Nk,Nf,Ng,Nh,Za,Zb,Zc,TT]
    refine⟨_,fun G a w hr=>iz (n:=0) (m:=t.length) (cs:=[]) (ds:=aK ah.cells t) (e:=54) rfl underlying22 (by simp only[↓DN,Qa,Qb,Qc,Qd,Qe,Qf,Qg,Qh,reduceCtorEq,↓reduceIte,Na,Nb,Nc,Nk,Nf,Ng,Nh,Za,Zb,Zc,TT];try rfl) T.z54 (by rw[T.Bl];decide) (by rw[T.Bl];rfl) (by rw[T.Bl];simp only[↓DN,Qa,Qb,Qc,Qd,Qe,Qf,Qg,Qh,reduceCtorEq,↓reduceIte,Na,Nb,Nc,Nk,Nf,Ng,Nh,Za,Zb,Zc,TT,im,aN,aB,Nc,↓reduceIte]) iG (by rw[T.VJ];omega) (by omega) kG (by rw[T.Bl];exact .inl ⟨rfl,rfl,.inr (.inr rfl)⟩) hr.eval hr.st,?_⟩
    rw[T.Bl]
    rintro r s4 ⟨O,cap,rest,rfl,gB,B6,yF,qK,rfl⟩
    have Mb:s3.aw O=none:=by
     rcases qK with h|⟨_,h⟩
     ·exact h
     ·simp[aN,aB] at h
    refine jR fQ ?_;clear fQ K1
    have hO:=AS.af s3 O (aK ah.cells t++rest)
    have mw:s3.le (s3.set O (aK ah.cells t++rest)):=AS.aF (AS.le.refl s3) Mb _
    generalize s3.set O (aK ah.cells t++rest)=s4 at hO mw⊢
    refine eh ?_
    intro K hK
    simp only[↓DN,Qa,Qb,Qc,Qd,Qe,Qf,Qg,Qh,reduceCtorEq,↓reduceIte,Na,Nb,Nc,Nk,Nf,Ng,Nh,Za,Zb,Zc,TT]
    refine hK _ _ ?_;clear hK K
    refine cf ?_
    intro K1 fQ
    refine jA ?_
    refine ag ?_
    refine aD (fun E s'=>∃(i:Nat)(z:AV),i≤t.length∧E 7=.v (.int .i64 i)∧E 5=.ig O 0 5 t.length cap∧E 6=z∧E 1=.sl 1 S.length SC .any∧E 2=.cN [.sl 5 t.length (aK ah.cells t) .any,.v (.int .i64 leaf),.v (.int .i64 own),.sl 1 draw.length (draw.map ae) .any,.sl 1 ctx.length (ctx.map ae) .any,.sl 1 fresh.length (fresh.map aJ) .any]∧
      s'.aw O=some (aK ah.cells (TK t S i)++rest)∧cZ 1 s3 s' z i ((It S i).map dP)∧s3.le s')
     (fun E _=>match E 7 with |.v (.int _ i)=>t.length-i.toNat|_=>0) ?_ ?_
    ·exact⟨0,bU,Nat.zero_le _,by simp only[aB,Nc,↓reduceIte];rfl,by simp only[aB,Nc,↓reduceIte],(by simp only[aB,Nc,↓reduceIte];rfl),by simp only[aB,bx,List.getD_cons_zero,List.getD_cons_succ,Nc,↓reduceIte],by simp only[aB,Nc,↓reduceIte],hO,cZ.nil _ _ _,mw⟩
    ·clear hO mw
     rintro E1 s5 ⟨i,z,hi,g7,g5,g6,g1,g2,hO,hz,hle⟩ -
     refine wK fun K2 aU=>?_
     by_cases aY:i<t.length
     ·have bJ:((i:Nat):Int)<((t.length:Nat):Int):=by omega
      have cA:(0:Int)≤((i:Nat):Int):=by omega
      have hB:AV.v (.int .u8 (cE .u8 (i:Int)))=ae (UInt8.ofNat i):=(pA i).symm
      have htb:kW [AV.v (.int .u8 (cE .u8 (i:Int)))]=⟨[UInt8.ofNat i].toArray⟩:=by rw[hB];exact dC [_]
      have DD:isByte (AV.v (.int .u8 (cE .u8 (i:Int))))=true:=by rw[hB];rfl
      have L5:∀a:AV,List.replicate 1 a=[a]:=fun _=>rfl
      have cK:=fun s=>p7 (Γ:=Γ) (qJ S i) (by have:=L7 S i;omega) s
      have Tk:cw (qJ S i)=kS S i:=rfl
      rw[Tk] at cK
      have cP:=fun s=>mH (Γ:=Γ) (kS S i) (L8 S i).2.2 s
      obtain⟨F,hF⟩:∃F:Env→Prop,F=fun E=>E 7=.v (.int .i64 i)∧E 5=.ig O 0 5 t.length cap∧E 1=.sl 1 S.length SC .any∧E 2=.cN [.sl 5 t.length (aK ah.cells t) .any,.v (.int .i64 leaf),.v (.int .i64 own),.sl 1 draw.length (draw.map ae) .any,.sl 1 ctx.length (ctx.map ae) .any,.sl 1 fresh.length (fresh.map aJ) .any]:=⟨_,rfl⟩
      refine jB (Ai @g7 (Ai @g5 (decide_eq_true bJ))) ?_
      refine jE ?_
      refine ab ?_
      refine aU _ _ ?_;clear aU K2
      refine wK fun K3 bq=>?_
      refine ag ?_
      refine wS fun K hK=>?_
      simp only[↓DN,Qa,Qb,Qc,Qd,Qe,Qf,Qg,Qh,reduceCtorEq,↓reduceIte,Na,Nb,Nc,Nk,Nf,Ng,Nh,Za,Zb,Zc,TT,g7,htb,L5,DD,List.all_cons,List.all_nil,Bool.and_self]
      refine hK _ _ ?_;clear hK K
      refine wK fun K4 dM=>?_
      have UW:∀(E:Env),F E→E 6=z→E 8=.v (.string ⟨(qJ S i).toArray⟩)→K4 E s5:=by
       intro E fF f6 f8
       rw[hF] at fF
       obtain⟨f7,f5,f1,f2⟩:=fF
       refine dM _ _ ?_;clear dM K4
       refine jS @f8 fun K hK=>?_
       refine ad (cK _) ?_
       rintro r s6 ⟨rfl,rfl⟩
       refine jR hK ?_;clear hK K
       refine wK fun K5 ju=>?_
       have YT:∀(E:Env)(s7:AS)(z':AV),F E→E 9=.v (.int .u64 (kS S i:Nat))→E 6=z'→s7.aw O=some (aK ah.cells (TK t S i)++rest)→cZ 1 s3 s7 z' (i+1) ((It S (i+1)).map dP)→s3.le s7→K5 E s7:=by
        intro E s7 z' fF f9 f6 hO hz hle
        rw[hF] at fF
        obtain⟨f7,f5,f1,f2⟩:=fF
        refine ju _ _ ?_;clear ju K5
        have Ks:=yC t S i
        have hTi:i<(TK t S i).length:=by omega
        have DG:(List.drop (i*5) (aK ah.cells (TK t S i)++rest))[0]? =some (AV.v (.int .i64 (nd t i).kind)):=by
         have h5:=Pt (c:=ah.cells) (k:=5) (fun _=>rfl) hTi rest
         rw[←mZ hTi,tQ t S i i (Nat.le_refl _)] at h5
         have h6:=congrArg (fun l=>l[0]?) h5
         simpa[List.getElem?_take,ah.cells] using h6
        have dK:TK t S (i+1)=if(nd t i).kind≠0 then(TK t S i).set i {nd t i with key:=3^kS S i%PP} else TK t S i:=rfl
        have hrk:=Pr hTi (3^kS S i%PP) rest
        rw[tQ t S i i (Nat.le_refl _)] at hrk
        have YU:∀(E:Env)(s8:AS),F E→E 6=z'→s8.aw O=some (aK ah.cells (TK t S (i+1))++rest)→cZ 1 s3 s8 z' (i+1) ((It S (i+1)).map dP)→s3.le s8→K3 E s8:=by
         intro E s8 fF f6 hO hz hle
         rw[hF] at fF
         obtain⟨f7,f5,f1,f2⟩:=fF
         refine bq _ _ ?_;clear bq K3
         refine jD (Ai @f7 (bd i (by omega))) ?_
         refine⟨⟨i+1,z',aY,by simp only[aB,Nc,↓reduceIte],by simp only[aB,f5,Nc,↓reduceIte],by simp only[aB,f6,Nc,↓reduceIte],by simp only[aB,f1,Nc,↓reduceIte],by simp only[aB,f2,Nc,↓reduceIte],hO,hz,hle⟩,?_⟩
         simp only[g7,aB,↓reduceIte]
         omega
        clear bq
        refine jB (Ai @f5 (Ai @f7 (Ai @cA (Ai @bJ (Ai @aY (Ai @au (Ai @hO @DG))))))) ?_
        by_cases N2:(nd t i).kind=0
        ·have e0:((nd t i).kind != 0)=false:=by rw[N2];rfl
         rw[if_neg (fun q=>q N2)] at dK
         rw[←dK] at hO
         refine wC fun X Y hX hY=>?_
         simp only[↓DN,Qa,Qb,Qc,Qd,Qe,Qf,Qg,Qh,reduceCtorEq,↓reduceIte,Na,Nb,Nc,Nk,Nf,Ng,Nh,Za,Zb,Zc,TT,DB,e0]
         refine hY ?_;clear hX hY X Y
         refine ab ?_
         exact YU _ _ (by rw[hF];exact⟨by simp only[aB,f7,Nc,↓reduceIte],by simp only[aB,f5,Nc,↓reduceIte],by simp only[aB,f1,Nc,↓reduceIte],by simp only[aB,f2,Nc,↓reduceIte]⟩) (by simp only[aB,f6,Nc,↓reduceIte]) hO hz hle
        ·have e0:((nd t i).kind != 0)=true:=by rw[bne_iff_ne];exact N2
         rw[if_pos N2] at dK
         rw[←dK] at hrk
         have Pb:(aK ah.cells (TK t S i)++rest).length=t.length*5+rest.length:=by rw[List.length_append,Go.AM.cj jy,Ks]
         generalize aK ah.cells (TK t S i)++rest=RR at *
         refine wC fun X Y hX hY=>?_
         simp only[↓DN,Qa,Qb,Qc,Qd,Qe,Qf,Qg,Qh,reduceCtorEq,↓reduceIte,Na,Nb,Nc,Nk,Nf,Ng,Nh,Za,Zb,Zc,TT,DB,e0]
         refine hX ?_;clear hX hY X Y
         refine jU (Ai @f9 (Ai @f5 @f7)) fun K hK=>?_
         refine ad (cP _) ?_
         rintro r s8 ⟨rfl,rfl⟩
         simp only[↓DM,bE,DX,Nz,↓DN,Qa,Qb,Qc,Qd,Qe,Qf,Qg,Qh,reduceCtorEq,↓reduceIte,Na,Nb,Nc,Nk,Nf,Ng,Nh,Za,Zb,Zc,TT,f5,f7,cA,bJ,aY,au,hO]
         refine⟨by omega,hK _ _ ?_⟩
         rw[hrk]
         exact YU _ _ (by rw[hF];exact⟨by simp only[aB,f7,Nc,↓reduceIte],by simp only[aB,f5,Nc,↓reduceIte],by simp only[aB,f1,Nc,↓reduceIte],by simp only[aB,f2,Nc,↓reduceIte]⟩) (by simp only[aB,f6,Nc,↓reduceIte]) (AS.af _ _ _) (hz.own fun t e h _=>h) (AS.aF hle Mb _)
       have hks:=L9 S i
       rcases hz with⟨rfl,fD,sF⟩|⟨tk,ek,rfl,pc,tJ⟩
       ·refine wE fun K hK=>?_
        simp only[↓DN,Qa,Qb,Qc,Qd,Qe,Qf,Qg,Qh,reduceCtorEq,↓reduceIte,Na,Nb,Nc,Nk,Nf,Ng,Nh,Za,Zb,Zc,TT,f6,bU,List.replicate_succ]
        intro tk pc
        refine hK _ _ (YT _ _ (.sl 1 1 [.v (.int .u64 (kS S i:Nat))] (.own tk 0)) (by rw[hF];exact⟨by simp only[aB,f7,Nc,↓reduceIte],by simp only[aB,f5,Nc,↓reduceIte],by simp only[aB,f1,Nc,↓reduceIte],by simp only[aB,f2,Nc,↓reduceIte]⟩) (by simp only[aB,Nc,↓reduceIte]) (by simp only[aB,Nc,↓reduceIte]) hO ?_ (AS.bn hle (aZ hle pc) 0))
        refine .inr ⟨tk,0,?_,by simp[AS.bA],aZ hle pc⟩
        rw[hks,sF]
        subst fD
        rfl
       ·refine wE fun K hK=>?_
        simp only[↓DN,Qa,Qb,Qc,Qd,Qe,Qf,Qg,Qh,reduceCtorEq,↓reduceIte,Na,Nb,Nc,Nk,Nf,Ng,Nh,Za,Zb,Zc,TT,f6,pc,List.replicate_succ]
        refine⟨by omega,by omega,hK _ _ (YT _ _ (.sl 1 (i+1) ((It S i).map dP++[.v (.int .u64 (kS S i:Nat))]) (.own tk (ek+1))) (by rw[hF];exact⟨by simp only[aB,f7,Nc,↓reduceIte],by simp only[aB,f5,Nc,↓reduceIte],by simp only[aB,f1,Nc,↓reduceIte],by simp only[aB,f2,Nc,↓reduceIte]⟩) (by simp only[aB,Nc,↓reduceIte]) (by simp only[aB,Nc,↓reduceIte]) hO ?_ (AS.bn hle tJ (ek+1)))⟩
        exact .inr ⟨tk,ek+1,by rw[hks],by simp[AS.bA],tJ⟩
      by_cases h1:i<S.length
      ·have CI:((i:Nat):Int)<((S.length:Nat):Int):=by omega
       have N7:=N5 i h1
       by_cases h2:(S.getD i []).length≤40
       ·have e2:(((S.getD i []).length:Nat):Int)≤40:=by omega
        have gS:qJ S i=UInt8.ofNat i::S.getD i []:=by unfold qJ;rw[if_pos ⟨h1,h2⟩]
        rw[gS] at UW
        generalize S.getD i []=si at *
        refine jB (Ai @g7 (Ai @g1 (Ai (decide_eq_true CI) (Ai @CI (Ai @cA (Ai @N7 (decide_eq_true e2))))))) ?_
        refine jE ?_
        refine jU (Ai @g7 (Ai @g1 (Ai @CI (Ai @cA (Ai @N7 (Ai @dC (Ai @di (Ai (eF (show 1+si.length<2^62 by omega)) (eF (show[UInt8.ofNat i].length+si.length<2^62 by simp;omega)))))))))) fun K hK=>?_
        refine hK _ _ (UW _ (by rw[hF];exact⟨by simp only[aB,g7,Nc,↓reduceIte],by simp only[aB,g5,Nc,↓reduceIte],by simp only[aB,g1,Nc,↓reduceIte],by simp only[aB,g2,Nc,↓reduceIte]⟩) (by simp only[aB,g6,Nc,↓reduceIte]) (by simp only[aB,Nc,↓reduceIte]))
       ·have e2:¬(((S.getD i []).length:Nat):Int)≤40:=by omega
        have gS:qJ S i=[UInt8.ofNat i]:=by unfold qJ;rw[if_neg (fun q=>h2 q.2)]
        rw[gS] at UW
        generalize S.getD i []=si at *
        refine jB (Ai @g7 (Ai @g1 (Ai (decide_eq_true CI) (Ai @CI (Ai @cA (Ai @N7 (decide_eq_false e2))))))) ?_
        refine jF ?_
        refine ab ?_
        exact UW _ (by rw[hF];exact⟨by simp only[aB,g7,Nc,↓reduceIte],by simp only[aB,g5,Nc,↓reduceIte],by simp only[aB,g1,Nc,↓reduceIte],by simp only[aB,g2,Nc,↓reduceIte]⟩) (by simp only[aB,g6,Nc,↓reduceIte]) (by simp only[aB,Nc,↓reduceIte])
      ·have CI:¬((i:Nat):Int)<((S.length:Nat):Int):=by omega
       have gS:qJ S i=[UInt8.ofNat i]:=by unfold qJ;rw[if_neg (fun q=>h1 q.1)]
       rw[gS] at UW
       refine jB (Ai @g7 (Ai @g1 (decide_eq_false CI))) ?_
       refine jF ?_
       refine ab ?_
       exact UW _ (by rw[hF];exact⟨by simp only[aB,g7,Nc,↓reduceIte],by simp only[aB,g5,Nc,↓reduceIte],by simp only[aB,g1,Nc,↓reduceIte],by simp only[aB,g2,Nc,↓reduceIte]⟩) (by simp only[aB,g6,Nc,↓reduceIte]) (by simp only[aB,Nc,↓reduceIte])
     ·have bJ:¬((i:Nat):Int)<((t.length:Nat):Int):=by omega
      obtain rfl:i=t.length:=by omega
      refine jB (Ai @g7 (Ai @g5 (decide_eq_false bJ))) ?_
      refine jF ?_
      refine aC ?_
      simp only[aA,aq,if_true]
      refine fQ _ _ ?_;clear fQ aU K2 K1
      have Ks:=yC t S t.length
      refine qq (eE.settle (d:=5) (x:=.ig O 0 5 t.length cap) (by simp only[aB,g5,Nc,↓reduceIte]) (b8.outer (n:=t.length) (sz:=5) hO (by rw[Go.AM.cj jy,Ks]))) ?_
      refine qq (eE.weaken (d:=6) (v:=.sl 1 t.length ((It S t.length).map dP) .any) (by
       have e6:=hz.aE
       rw[←g6] at e6
       simpa only[aB,Nc,↓reduceIte] using e6)) ?_
      have fY:s3.le (s5.drop O):=AS.qj hle Mb
      refine(fun(k:∀(E:Env)(s9:AS),s3.le s9→E 5=.sl 5 t.length (aK ah.cells (TK t S t.length)) .any→E 6=.sl 1 t.length ((It S t.length).map dP) .any→E 2=.cN [.sl 5 t.length (aK ah.cells t) .any,.v (.int .i64 leaf),.v (.int .i64 own),.sl 1 draw.length (draw.map ae) .any,.sl 1 ctx.length (ctx.map ae) .any,.sl 1 fresh.length (fresh.map aJ) .any]→_)=>k _ _ fY (by simp only[aB,Nc,↓reduceIte]) (by simp only[aB,Nc,↓reduceIte]) (by simp only[aB,g2,Nc,↓reduceIte])) ?_
      have hwT:=Iu (Y0 hs).1 S t.length
      have hkT:=Ma t S t.length (Nat.le_refl _)
      have xcJ:=CQ t S t.length
      have hks:∀j,j<t.length→(List.take 1 (List.drop j ((It S t.length).map dP)))[0]? =some (AV.v (.int .u64 (kS S j:Nat))):=by
       intro j hj
       simp[List.getElem?_take,It,hj,dP]
      have p8:=fun s=>nw (Γ:=Γ) (TK t S t.length) hwT s
      clear hO hz hle fY g7 g5 g6 g1 g2 hi bJ Mb qK yF B6 gB aY N5 kG
      intro E s9 hle g5 g6 g2
      generalize hTT:TK t S t.length=T2 at *
      have B7:draw.length≤40:=hs.2.1
      have gw:ctx.length≤100:=hs.2.2.1
      have oZ:fresh.length≤5:=hs.2.2.2.1
      unfold aW at p8
      rw[Ks] at p8
      refine cf ?_
      intro K1 fQ
      refine jS @g5 fun K hK=>?_
      refine ad (p8 _) ?_
      rintro r Pf ⟨rfl,rfl⟩
      by_cases mR:bf T2
      ·rw[decide_eq_true mR]
       refine jR hK ?_;clear hK K
       refine jF ?_
       refine ab ?_
       refine fQ _ _ ?_;clear fQ K1 p8
       have cM:=fun s=>tK (Γ:=Γ) dU gy hG T2 (r4 mR) (by omega) (vZ mR) leaf draw ctx (by omega) (by omega) fresh (by omega) s
       obtain⟨M,hM⟩:∃M,M=l8 T2 leaf draw ctx fresh:=⟨_,rfl⟩
       rw[←hM] at cM
       obtain⟨⟨⟨pk,pp,ps⟩,mt,mh,mc⟩,me⟩:=M
       unfold yy dN.cells aW eg al aG at cM
       simp only at cM
       rw[Ks] at cM
       refine vS 10 (by decide) ?_
       intro K hK
       simp only[↓DM,bE,DX,Nz,↓DN,Qa,Qb,Qc,Qd,Qe,Qf,Qg,Qh,reduceCtorEq,↓reduceIte,Na,Nb,Nc,Nk,Nf,Ng,Nh,Za,Zb,Zc,TT,g5,g2]
       refine ad (cM _) ?_
       rintro r Pg ⟨rfl,rfl⟩
       simp only[↓DM,bE,DX,Nz,↓DN,Qa,Qb,Qc,Qd,Qe,Qf,Qg,Qh,reduceCtorEq,↓reduceIte,Na,Nb,Nc,Nk,Nf,Ng,Nh,Za,Zb,Zc,TT]
       intro rf Pk
       refine hK _ _ rf _ (by simp only[aB,Nc,↓reduceIte]) Pk ?_
       clear hK K Pk
       refine cf ?_
       intro K1 fQ
       by_cases S1:me=0
       ·have e0:(me != 0)=false:=by rw[S1];rfl
        refine jB @e0 ?_
        refine jF ?_
        refine ab ?_
        refine fQ _ _ ?_;clear fQ K1
        have Gw:(l8 T2 leaf draw ctx fresh).2=0:=by rw[←hM];exact S1
        obtain⟨m1,m2,m3,m4,mV⟩:=qA Gw
        obtain⟨-,hmm⟩:=fX.1 m1
        obtain⟨lf,rfl⟩:=Int.eq_ofNat_of_zero_le hmm.1
        rw[←hM,Int.toNat_natCast] at mV
        simp only at mV
        obtain⟨bT,kq⟩:Fit (aI T2)∧T2.length=2*aI T2-1:=by
         rcases bG (t:=T2) with h|h
         ·exact absurd h mR.1
         ·exact h
        have xio:=bT.le
        have ev:lf<aI T2:=by
         have:=hmm.2.1
         omega
        have xz:=fC bT ev
        have w1:dN.cells (fk T2 lf draw ctx fresh).p=[.v (.int .u64 pk),.sl 1 pp.length (pp.map ae) .any,.sl 2 ps.length (aK cy.cells ps) .any]:=by rw[←mV];rfl
        have w2:ps.length=(az lf (aI T2)).length:=by
         have:=congrArg (fun M=>M.p.steps.length) mV
         simp only at this
         rw[this]
         simp[fk,bQ]
        have w3:mt=gY T2 lf draw fresh:=congrArg (·.t) mV
        have w4:mh=cu lf draw (az lf (aI T2)) (az lf (aI T2)).length:=congrArg (·.held) mV
        have w5:mc=b7 draw ((az lf (aI T2)).length+1):=congrArg (·.GR) mV
        have w6:mh.length=(az lf (aI T2)).length+1:=by rw[w4];simp[cu]
        have cD:=fun s=>kM (Γ:=Γ) T2 hwT.1 s
        have jk:=fun i s=>gO (Γ:=Γ) T2 hwT.1 i s
        have Pu:=fun ow a how cY cT s=>yB (Γ:=Γ) T2 hwT.1 bT lf ow a ev how cY cT s
        have Tw:=fun i s=>Bw (Γ:=Γ) fresh i (by omega) s
        have kL:=fun a(ha:a≤63)s=>l7 (Γ:=Γ) dU gy draw (by omega) a (by omega) s
        have Cq:=fun ow DA cY a ha lM s=>(by
         have q:=Aa (Γ:=Γ) dU gy hG (gY T2 lf draw fresh) (r4 (Fb Gw).1) lf ow (b7 draw (a+1)) (by rw[lB];decide) s
         rw[Fc Gw (ow:=ow) DA cY (a:=a) ha lM,←w3,←w4,←w5] at q
         exact q:aj prog Γ 24 [aW mt,.v (.int .i64 lf),.v (.int .i64 (ow:Nat)),al (b7 draw (a+1)) .any] s (fun r s'=>r=.eu [eg (mh.drop (1+a)),al mc .any,.v (.int .i64 0)]∧s'=s))
        have G9:=fun ow DA cY Th a ha lM x hx kk hk Dy s=>(by
         have q:=rp (Γ:=Γ) dU gy hG T2 (r4 mR) (by omega) (vZ mR) lf draw ctx (by omega) fresh (by omega) Gw ow DA cY Th a ha lM x hx kk hk Dy s
         rw[w1,←w4,←w5] at q
         exact q:aj prog Γ 27 [aW T2,.v (.int .i64 lf),.agg [.v (.int .u64 pk),.sl 1 pp.length (pp.map ae) .any,.sl 2 ps.length (aK cy.cells ps) .any],.v (.int .i64 (ow:Nat)),eg [⟨(x:Nat),kk⟩],al ctx .any,aG fresh .any] s (fun r s'=>r=.eu [eg (⟨(x:Nat),kk⟩::mh.drop (1+a)),al mc .any,.v (.int .i64 0)]∧s'=s))
        have dV:=fun n(hn:n<T2.length)s=>tS (Γ:=Γ) T2 mR fresh (by omega) n hn s
        have Jm:=fun s=>tT (Γ:=Γ) draw (by omega) (az lf (aI T2)).length (by omega) s
        have Ox:=fun s=>oO (Γ:=Γ) [] [] (by decide) (by decide) s
        have Y3:=fun i(hi:i<(az lf (aI T2)).length)=>CN bT ev kq hi
        have EO:∀(x:Int)(kk:Nat)(D:List bu),eg (⟨x,kk⟩::D)=.sl 2 (1+D.length) ([.v (.int .i64 x),.v (.int .u64 kk)]++aK bu.cells D) .any:=fun x kk D=>by
         unfold eg
         rw[List.length_cons,Nat.add_comm]
         rfl
        have hrn:aK bu.cells []=[]:=rfl
        have Pv:=fun a s=>tN (Γ:=Γ) (mh.drop (1+a)) (mh.drop (1+a)) (by rw[List.length_drop];omega) s
        have Pw:=fun x kk a s=>tN (Γ:=Γ) (⟨x,kk⟩::mh.drop (1+a)) (⟨x,kk⟩::mh.drop (1+a)) (by rw[List.length_cons,List.length_drop];omega) s
        have Y4:=fun a(ha:a<(az lf (aI T2)).length)=>JM mh (k:=1+a) (by omega)
        have Y5:=fun a=>List.length_drop (l:=mh) (i:=1+a)
        have bS:=fun a=>Io (mh.drop (1+a))
        have Bx:=fun a(ha:a<(az lf (aI T2)).length)s=>dV (bY (nodeAt lf (aI T2) a)) (Y3 a ha) s
        have RQ:∀a(ha:a<(az lf (aI T2)).length),∀x∈jx T2 lf fresh a,∃m:Nat,x=(m:Int)∧m<T2.length∧(nd T2 m).kind≠0∧kT m (bY (nodeAt lf (aI T2) a)):=fun a ha x hx=>CK mR fresh (Y3 a ha) hx
        have Y6:∀a,bC T2 (bY (nodeAt lf (aI T2) a):Nat) fresh=jx T2 lf fresh a:=fun _=>rfl
        simp only[decide_eq_true_eq,decide_true] at Pv Pw
        simp only[EO,List.length_nil,Nat.add_zero,hrn,List.append_nil] at G9 Pw
        simp only[Y6] at Bx
        unfold aW at cD jk Pu Cq G9 Bx
        unfold eg at Cq Pv
        unfold aG at Tw G9 Bx
        unfold al at kL Cq G9
        simp only[Ks] at cD jk Pu G9 Bx
        clear dV EO hrn hM mV w1 w3 w4 m4 m2 m3 m1
        generalize aK ah.cells T2=X2 at *
        generalize aK ah.cells mt=XM at *
        generalize aK cy.cells ps=PS at *
        generalize aK bu.cells mh=HM at *
        refine(fun(k:∀(E:Env)(s9:AS),s3.le s9→E 5=.sl 5 t.length X2 .any→E 6=.sl 1 t.length ((It S t.length).map dP) .any→E 2=.cN [.sl 5 t.length (aK ah.cells t) .any,.v (.int .i64 lf),.v (.int .i64 own),.sl 1 draw.length (draw.map ae) .any,.sl 1 ctx.length (ctx.map ae) .any,.sl 1 fresh.length (fresh.map aJ) .any]→
          E 10=.cN [.v (.int .u64 pk),.sl 1 pp.length (pp.map ae) .any,.sl 2 ps.length PS .any]→E 11=.sl 5 mt.length XM .any→E 12=.sl 2 mh.length HM .any→E 13=.sl 1 mc.length (mc.map ae) .any→_)=>k _ _ hle (by simp only[aB,g5,Nc,↓reduceIte]) (by simp only[aB,g6,Nc,↓reduceIte]) (by simp only[aB,g2,Nc,↓reduceIte]) (by simp only[aB,Nc,↓reduceIte]) (by simp only[aB,Nc,↓reduceIte]) (by simp only[aB,Nc,↓reduceIte]) (by simp only[aB,Nc,↓reduceIte])) ?_
        clear g5 g6 g2 hle
        intro E s12 hle g5 g6 g2 g10 g11 g12 g13
        generalize hXt:aK ah.cells t=Xt at *
        refine cf ?_
        intro K1 fQ
        refine jA ?_
        refine ag ?_
        refine aD (fun E s'=>∃i:Nat,i≤aI T2∧E 15=.v (.int .i64 i)∧E 5=.sl 5 t.length X2 .any∧E 6=.sl 1 t.length ((It S t.length).map dP) .any∧E 2=.cN [.sl 5 t.length Xt .any,.v (.int .i64 lf),.v (.int .i64 own),.sl 1 draw.length (draw.map ae) .any,.sl 1 ctx.length (ctx.map ae) .any,.sl 1 fresh.length (fresh.map aJ) .any]∧
          E 10=.cN [.v (.int .u64 pk),.sl 1 pp.length (pp.map ae) .any,.sl 2 ps.length PS .any]∧E 11=.sl 5 mt.length XM .any∧E 12=.sl 2 mh.length HM .any∧E 13=.sl 1 mc.length (mc.map ae) .any∧s3.le s')
         (fun E _=>match E 15 with |.v (.int _ i)=>aI T2-i.toNat|_=>0) ?_ ?_
        ·exact⟨0,Nat.zero_le _,by simp only[aB,Nc,↓reduceIte];rfl,by simp only[aB,g5,Nc,↓reduceIte],by simp only[aB,g6,Nc,↓reduceIte],by simp only[aB,g2,Nc,↓reduceIte],by simp only[aB,g10,Nc,↓reduceIte],by simp only[aB,g11,Nc,↓reduceIte],by simp only[aB,g12,Nc,↓reduceIte],by simp only[aB,g13,Nc,↓reduceIte],hle⟩
        ·clear g5 g6 g2 g10 g11 g12 g13 hle
         rintro E1 s13 ⟨i,hi,g15,g5,g6,g2,g10,g11,g12,g13,hle⟩ -
         refine wK fun K2 aU=>?_
         by_cases aY:i<aI T2
         ·have bJ:((i:Nat):Int)<((aI T2:Nat):Int):=by omega
          refine jS (Ai @g15 @g5) fun K hK=>?_
          refine ad (cD _) ?_
          rintro r s14 ⟨rfl,rfl⟩
          refine jV (decide_eq_true bJ) hK ?_;clear hK K
          refine jE ?_
          refine ab ?_
          refine aU _ _ ?_;clear aU K2
          refine wK fun K3 bq=>?_
          refine ag ?_
          obtain⟨F,hF⟩:∃F:Env→Prop,F=fun E=>E 15=.v (.int .i64 i)∧E 5=.sl 5 t.length X2 .any∧E 6=.sl 1 t.length ((It S t.length).map dP) .any∧E 2=.cN [.sl 5 t.length Xt .any,.v (.int .i64 lf),.v (.int .i64 own),.sl 1 draw.length (draw.map ae) .any,.sl 1 ctx.length (ctx.map ae) .any,.sl 1 fresh.length (fresh.map aJ) .any]∧
            E 10=.cN [.v (.int .u64 pk),.sl 1 pp.length (pp.map ae) .any,.sl 2 ps.length PS .any]∧E 11=.sl 5 mt.length XM .any∧E 12=.sl 2 mh.length HM .any∧E 13=.sl 1 mc.length (mc.map ae) .any:=⟨_,rfl⟩
          have hJ3:∀(E:Env)(s':AS),F E→s3.le s'→K3 E s':=by
           intro E s' fF hle
           rw[hF] at fF
           obtain⟨f15,f5,f6,f2,f10,f11,f12,f13⟩:=fF
           refine bq _ _ ?_;clear bq K3
           refine jD (Ai @f15 (bd i (by omega))) ?_
           refine⟨⟨i+1,by omega,by simp only[aB,Nc,↓reduceIte],by simp only[aB,f5,Nc,↓reduceIte],by simp only[aB,f6,Nc,↓reduceIte],by simp only[aB,f2,Nc,↓reduceIte],by simp only[aB,f10,Nc,↓reduceIte],by simp only[aB,f11,Nc,↓reduceIte],by simp only[aB,f12,Nc,↓reduceIte],by simp only[aB,f13,Nc,↓reduceIte],hle⟩,?_⟩
           simp only[g15,aB,↓reduceIte]
           omega
          clear bq
          refine wK fun K4 dM=>?_
          by_cases sD:i=lf
          ·have e1:((i:Int)==(lf:Int))=true:=by rw[sD];simp
           refine jB (Ai @g15 (Ai @g2 @e1)) ?_
           refine jE ?_
           refine aC ?_
           simp only[aA,aq,if_true,if_false,Nc]
           exact hJ3 _ _ (by rw[hF];exact⟨by simp only[aB,g15,Nc,↓reduceIte],by simp only[aB,g5,Nc,↓reduceIte],by simp only[aB,g6,Nc,↓reduceIte],by simp only[aB,g2,Nc,↓reduceIte],by simp only[aB,g10,Nc,↓reduceIte],by simp only[aB,g11,Nc,↓reduceIte],by simp only[aB,g12,Nc,↓reduceIte],by simp only[aB,g13,Nc,↓reduceIte]⟩) hle
          ·have e1:((i:Int)==(lf:Int))=false:=by
            rw[beq_eq_false_iff_ne]
            omega
           have Px:=jk (i:Nat)
           by_cases Gx:cB T2 (i:Nat)
           ·rw[decide_eq_true Gx] at Px
            refine jS (Ai @g15 (Ai @g2 (Ai @e1 @g5))) fun K hK=>?_
            refine ad (Px _) ?_
            rintro r UX ⟨rfl,rfl⟩
            refine jR hK ?_;clear hK K
            refine jF ?_
            refine ab ?_
            refine dM _ _ ?_;clear dM K4
            obtain⟨a,ha,-,cT⟩:=Ij bT ev aY sD
            have cl:=fun s=>Pu i a aY sD cT s
            have ch:=fun s=>Tw (i:Nat) s
            have cs:=fun s=>kL a (by omega) s
            have ce:=fun s=>Cq i Gx sD a cT ha s
            have cr:=fun s=>Bx a ha s
            have co:=fun Th x hx=>G9 i Gx sD Th a cT ha x hx
            have ckE:=fun s=>Pv a s
            have ckO:=fun x kk s=>Pw x kk a s
            have NY:=Y4 a ha
            have Kl:=Y5 a
            have hd3:=bS a
            have hmR:=RQ a ha
            have sP:(mh.drop (1+a)).length≠0:=by rw[List.length_drop];omega
            have sO:(mh.drop (1+a)).length≤2^40:=by rw[List.length_drop];omega
            have ea:dQ .i64 1 (a:Int)=((1+a:Nat):Int):=by rw[ec (by omega)];rfl
            have Y7:(0:Int)≤((1+a:Nat):Int):=by omega
            have mw:((1+a:Nat):Int)≤((mh.length:Nat):Int):=by omega
            have eW:=Int.le_refl ((mh.length:Nat):Int)
            have fmc:(mc != mc)=false:=by simp
            clear Pu Tw kL Cq Bx G9 Pv Pw Y4 Y5 bS RQ Px
            have xcL:(jx T2 lf fresh a).length≤2^40:=by
             unfold jx bC
             split
             ·have h1:=iM mR fresh (lv (bY (nodeAt lf (aI T2) a):Int).toNat) (bY (nodeAt lf (aI T2) a):Int).toNat
              have h2:=nn (bY (nodeAt lf (aI T2) a):Int).toNat
              have h3:=Nat.pow_le_pow_right (show 0<2 by decide) h2
              omega
             ·exact Nat.zero_le _
            generalize mh.drop (1+a)=MD at *
            generalize bY (nodeAt lf (aI T2) a)=sd at *
            generalize hRM:jx T2 lf fresh a=RM at *
            refine jS (Ai @g5 (Ai @g2 @g15)) fun K hK=>?_
            refine ad (cl _) ?_
            rintro r Iv ⟨rfl,rfl⟩
            refine jR hK ?_;clear hK K
            refine wK fun K5 ju=>?_
            refine jS (Ai @g2 @g15) fun K hK=>?_
            refine ad (ch _) ?_
            rintro r YR ⟨rfl,rfl⟩
            by_cases rm:((i:Nat):Int)∈fresh
            ·rw[decide_eq_true rm]
             refine jR hK ?_;clear hK K
             refine jE ?_
             refine bj T.mixed [7,8] (by kernel_rfl) ?_
             intro K hK
             simp only[↓DM,bE,DX,Nz,↓DN,Qa,Qb,Qc,Qd,Qe,Qf,Qg,Qh,reduceCtorEq,↓reduceIte,Na,Nb,Nc,Nk,Nf,Ng,Nh,Za,Zb,Zc,TT,g2,g15,g11]
             refine ad (cs _) ?_
             rintro r s18 ⟨rfl,rfl⟩
             simp only[↓DM,bE,DX,Nz,↓DN,Qa,Qb,Qc,Qd,Qe,Qf,Qg,Qh,reduceCtorEq,↓reduceIte,Na,Nb,Nc,Nk,Nf,Ng,Nh,Za,Zb,Zc,TT]
             refine ad (ce _) ?_
             rintro r s19 ⟨rfl,rfl⟩
             refine jR hK ?_;clear hK K
             have Ko:((0:Int) != 0)=false:=rfl
             refine wK fun K6 kU=>?_
             refine wS fun K hK=>?_
             simp only[↓DN,Qa,Qb,Qc,Qd,Qe,Qf,Qg,Qh,reduceCtorEq,↓reduceIte,Na,Nb,Nc,Nk,Nf,Ng,Nh,Za,Zb,Zc,TT,Ko,g13,dC,di,fmc,g12,ea,Y7,mw,eW,Int.toNat_natCast,NY,←Kl]
             refine ad (ckE _) ?_
             rintro r s20 ⟨rfl,rfl⟩
             refine jR hK ?_;clear hK K
             refine jF ?_
             refine ab ?_
             refine kU _ _ ?_;clear kU K6
             refine aC ?_
             simp only[aA,aq,if_true,if_false,Nc]
             exact hJ3 _ _ (by rw[hF];exact⟨by simp only[aB,g15,Nc,↓reduceIte],by simp only[aB,g5,Nc,↓reduceIte],by simp only[aB,g6,Nc,↓reduceIte],by simp only[aB,g2,Nc,↓reduceIte],by simp only[aB,g10,Nc,↓reduceIte],by simp only[aB,g11,Nc,↓reduceIte],by simp only[aB,g12,Nc,↓reduceIte],by simp only[aB,g13,Nc,↓reduceIte]⟩) hle
            ·rw[decide_eq_false rm]
             refine jR hK ?_;clear hK K
             refine jF ?_
             refine ab ?_
             refine ju _ _ ?_;clear ju K5
             refine jS (Ai @g5 @g2) fun K hK=>?_
             refine ad (cr _) ?_
             rintro r s18 ⟨rfl,rfl⟩
             refine jR hK ?_;clear hK K
             refine jA ?_
             refine ag ?_
             refine aD (fun E s'=>∃j:Nat,j≤RM.length∧E 22=.v (.int .i64 j)∧E 21=.sl 1 RM.length (RM.map aJ) .any∧E 16=.v (.int .i64 a)∧F E∧s3.le s')
              (fun E _=>match E 22 with |.v (.int _ j)=>RM.length-j.toNat|_=>0) ?_ ?_
             ·exact⟨0,Nat.zero_le _,by simp only[aB,Nc,↓reduceIte];rfl,by simp only[aB,Nc,↓reduceIte],by simp only[aB,Nc,↓reduceIte],(by rw[hF];exact⟨by simp only[aB,g15,Nc,↓reduceIte],by simp only[aB,g5,Nc,↓reduceIte],by simp only[aB,g6,Nc,↓reduceIte],by simp only[aB,g2,Nc,↓reduceIte],by simp only[aB,g10,Nc,↓reduceIte],by simp only[aB,g11,Nc,↓reduceIte],by simp only[aB,g12,Nc,↓reduceIte],by simp only[aB,g13,Nc,↓reduceIte]⟩),hle⟩
             ·clear g15 g5 g6 g2 g10 g11 g12 g13 hle
              rintro E2 s19 ⟨j,hj,g22,g21,g16,fF,hle⟩ -
              have RL:=fF
              rw[hF] at RL
              obtain⟨g15,g5,g6,g2,g10,g11,g12,g13⟩:=RL
              refine wK fun K7 Fe=>?_
              by_cases kg:j<RM.length
              ·have uL:((j:Nat):Int)<((RM.length:Nat):Int):=by omega
               have Py:(0:Int)≤((j:Nat):Int):=by omega
               obtain⟨x,hx,hxt,hxk,-⟩:=hmR RM[j] (List.getElem_mem kg)
               have hSj:(List.take 1 (List.drop j (RM.map aJ)))[0]? =some (AV.v (.int .i64 (x:Nat))):=by
                simp[List.getElem?_take,kg,aJ,hx]
               have hxm:(x:Int)∈RM:=by rw[←hx];exact List.getElem_mem kg
               have Y8:x<t.length:=by omega
               have hkx:=hks x Y8
               have Pz:(0:Int)≤((x:Nat):Int):=by omega
               have Mc:((x:Nat):Int)<((t.length:Nat):Int):=by omega
               have c1:=co rm x hxm (kS S x) (hkT x Y8 (by rw[←xcJ];exact hxk)) ⟨(L8 S x).1,(L8 S x).2.1⟩
               have c1':=fun s=>aj.gF (.cons (.refl _) (.cons (.refl _) (.cons (.refl _) (.cons (.refl _) (.cons (AV.bN (sp:=.new)) (.refl _)))))) (c1 s)
               have c2:=fun s=>ckO (x:Int) (kS S x) s
               clear co ckO ckE c1
               refine jB (Ai @g22 (Ai @g21 (decide_eq_true uL))) ?_
               refine jE ?_
               refine ab ?_
               refine Fe _ _ ?_;clear Fe K7
               refine wK fun K8 UY=>?_
               refine ag ?_
               refine bj T.mixed [22] (by kernel_rfl) ?_
               intro K hK
               simp only[↓DM,bE,DX,Nz,↓DN,Qa,Qb,Qc,Qd,Qe,Qf,Qg,Qh,reduceCtorEq,↓reduceIte,Na,Nb,Nc,Nk,Nf,Ng,Nh,Za,Zb,Zc,TT,g5,g2,g10,g15,g21,g22,g6,uL,Py,hSj,Pz,Mc,hkx,yE,List.replicate_succ]
               refine ad (c1' _) ?_
               rintro r s20 ⟨rfl,rfl⟩
               refine jR hK ?_;clear hK K
               have Ko:((0:Int) != 0)=false:=rfl
               refine bj T.mixed [28,29] (by kernel_rfl) ?_
               intro K hK
               simp only[↓DM,bE,DX,Nz,↓DN,Qa,Qb,Qc,Qd,Qe,Qf,Qg,Qh,reduceCtorEq,↓reduceIte,Na,Nb,Nc,Nk,Nf,Ng,Nh,Za,Zb,Zc,TT,Ko,g13,dC,di,fmc,g21,g22,uL,Py,hSj,g6,Pz,Mc,hkx,yE,List.replicate_succ,g12,g16,ea,Y7,mw,eW,Int.toNat_natCast,NY,←Kl,sP,hd3]
               refine⟨by omega,by omega,fun tk eo=>?_⟩
               simp only[List.cons_append,List.nil_append] at c2
               refine ad (aj.gF (.cons (.refl _) (.cons (AV.bN (sp:=.own tk 0)) .nil)) (c2 _)) ?_
               rintro r s21 ⟨rfl,rfl⟩
               refine jR hK ?_;clear hK K
               refine jF ?_
               refine ab ?_
               simp only[aq,aA,if_true,if_false,Nc]
               refine UY _ _ ?_;clear UY K8
               refine jD (Ai @g22 (bd j (by have:=xcL;omega))) ?_
               refine⟨⟨j+1,by omega,by simp only[aB,Nc,↓reduceIte],by simp only[aB,g21,Nc,↓reduceIte],by simp only[aB,g16,Nc,↓reduceIte],(by rw[hF];exact⟨by simp only[aB,g15,Nc,↓reduceIte],by simp only[aB,g5,Nc,↓reduceIte],by simp only[aB,g6,Nc,↓reduceIte],by simp only[aB,g2,Nc,↓reduceIte],by simp only[aB,g10,Nc,↓reduceIte],by simp only[aB,g11,Nc,↓reduceIte],by simp only[aB,g12,Nc,↓reduceIte],by simp only[aB,g13,Nc,↓reduceIte]⟩),AS.bn hle (aZ hle eo) 0⟩,?_⟩
               simp only[g22,aB,↓reduceIte]
               omega
              ·have uL:¬((j:Nat):Int)<((RM.length:Nat):Int):=by omega
               refine jB (Ai @g22 (Ai @g21 (decide_eq_false uL))) ?_
               refine jF ?_
               refine aC ?_
               simp only[aA,aq,if_true,if_false,Nc]
               exact hJ3 _ _ (by rw[hF];exact⟨by simp only[aB,g15,Nc,↓reduceIte],by simp only[aB,g5,Nc,↓reduceIte],by simp only[aB,g6,Nc,↓reduceIte],by simp only[aB,g2,Nc,↓reduceIte],by simp only[aB,g10,Nc,↓reduceIte],by simp only[aB,g11,Nc,↓reduceIte],by simp only[aB,g12,Nc,↓reduceIte],by simp only[aB,g13,Nc,↓reduceIte]⟩) hle
           ·rw[decide_eq_false Gx] at Px
            refine jS (Ai @g15 (Ai @g2 (Ai @e1 @g5))) fun K hK=>?_
            refine ad (Px _) ?_
            rintro r UX ⟨rfl,rfl⟩
            refine jR hK ?_;clear hK K
            refine jE ?_
            refine aC ?_
            simp only[aA,aq,if_true,if_false,Nc]
            exact hJ3 _ _ (by rw[hF];exact⟨by simp only[aB,g15,Nc,↓reduceIte],by simp only[aB,g5,Nc,↓reduceIte],by simp only[aB,g6,Nc,↓reduceIte],by simp only[aB,g2,Nc,↓reduceIte],by simp only[aB,g10,Nc,↓reduceIte],by simp only[aB,g11,Nc,↓reduceIte],by simp only[aB,g12,Nc,↓reduceIte],by simp only[aB,g13,Nc,↓reduceIte]⟩) hle
         ·have bJ:¬((i:Nat):Int)<((aI T2:Nat):Int):=by omega
          have Y9:=iQ [] []
          have fcc:(mc==mc)=true:=by simp
          have e32:(((32:Nat):Int)==32)=true:=rfl
          rw[←w2,←w2] at *
          generalize Kdf.derive [] []=dd at *
          refine jS (Ai @g15 @g5) fun K hK=>?_
          refine ad (cD _) ?_
          rintro r s14 ⟨rfl,rfl⟩
          refine jV (decide_eq_false bJ) hK ?_;clear hK K
          refine jF ?_
          refine aC ?_
          simp only[aA,aq,if_true,if_false,Nc]
          refine fQ _ _ (ct.g ?_)
          clear fQ aU K2 K1
          refine bj T.mixed [8,11] (by kernel_rfl) ?_
          intro K hK
          simp only[↓DM,bE,DX,Nz,↓DN,Qa,Qb,Qc,Qd,Qe,Qf,Qg,Qh,reduceCtorEq,↓reduceIte,Na,Nb,Nc,Nk,Nf,Ng,Nh,Za,Zb,Zc,TT,g13,g2,g10,dC,di,Y9,e32,fcc]
          rw[←w5] at Jm
          refine ad (Jm _) ?_
          rintro r UX ⟨rfl,rfl⟩
          simp only[↓DM,bE,DX,Nz,↓DN,Qa,Qb,Qc,Qd,Qe,Qf,Qg,Qh,reduceCtorEq,↓reduceIte,Na,Nb,Nc,Nk,Nf,Ng,Nh,Za,Zb,Zc,TT,fcc]
          refine ad (Ox _) ?_
          rintro r Iv ⟨rfl,rfl⟩
          refine jV (Ai @Y9 @e32) hK ?_;clear hK K
          refine jI ?_
          exact⟨_,_,AV.aE.refl _,AS.le.refl _,rfl⟩
       ·have e0:(me != 0)=true:=by rw[bne_iff_ne];exact S1
        refine jB @e0 ?_
        refine jE ?_
        refine jA ?_
        refine jI ?_
        exact⟨_,_,AV.aE.refl _,AS.le.refl _,rfl⟩
      ·rw[decide_eq_false mR]
       refine jR hK ?_;clear hK K
       refine jE ?_
       refine jA ?_
       refine jI ?_
       exact⟨_,_,AV.aE.refl _,AS.le.refl _,rfl⟩
   ·rw[decide_eq_false ie]
    refine jR hK ?_;clear hK K
    refine jE ?_
    refine jK (YZ _) ?_;rintro s4 rfl
    refine jI ?_
    exact⟨_,_,AV.aE.refl _,AS.le.refl _,rfl⟩
  ·have RP:(40:Int)<(S.length:Int):=by omega
   refine jV (decide_eq_true RP) hK ?_;clear hK K
   refine jE ?_
   refine jK (YZ _) ?_;rintro s3 rfl
   refine jI ?_
   exact⟨_,_,AV.aE.refl _,AS.le.refl _,rfl⟩
abbrev Tx:Ty:=.slice 5 (.struct (.cons Cg (.cons Bb (.cons (.int .u64) (.cons Bb (.cons (.slice 1 Cg) .nil))))))
theorem Jx{gD:List AV}(h:ed (.struct (.cons Tx (.cons Cg (.cons Cg (.cons Bb (.cons Bb (.cons (.slice 1 Cg) .nil))))))) gD):∃c:oN,gD=c.cells∧∀n∈c.t,n.key<2^64:=by
  obtain⟨x1,y1,rfl,t1,h⟩:=fy (vO h);obtain⟨x2,y2,rfl,t2,h⟩:=fy h;obtain⟨x3,y3,rfl,t3,h⟩:=fy h;obtain⟨x4,y4,rfl,t4,h⟩:=fy h;obtain⟨x5,y5,rfl,t5,h⟩:=fy h;obtain⟨x6,y6,rfl,t6,h⟩:=fy h;obtain rfl:=HZ h;obtain⟨t,rfl,hk⟩:=ed.tree t1;obtain⟨n2,rfl,_⟩:=pF t2;obtain⟨n3,rfl,_⟩:=pF t3;obtain⟨l4,rfl,_⟩:=t4.bytes;obtain⟨l5,rfl,_⟩:=t5.bytes;obtain⟨l6,rfl⟩:=t6.ints;exact⟨⟨t,n2,n3,l4,l5,l6⟩,rfl,hk⟩
theorem Jy{gD:List AV}(h:ed (.slice 1 Bb) gD):∃S:List (List UInt8),gD=[Ps S]:=by
  obtain⟨els,rfl,_,bS⟩:=ed.rows h;have key:∀els:List (List AV),(∀el∈els,el.length=1∧ed Bb el)→∃S:List (List UInt8),els=S.map fun l=>[al l .any]:=by
    intro els;induction els with
    |nil=>intro _;exact⟨[],rfl⟩
    |cons e els ih=>
      intro h;obtain⟨S,rfl⟩:=ih (fun el sD=>h el (by simp[sD]));obtain⟨_,h1⟩:=h e (by simp);obtain⟨l,rfl,_⟩:=h1.bytes;exact⟨l::S,rfl⟩
  obtain⟨S,rfl⟩:=key els bS;refine⟨S,?_⟩;have hf:∀S:List (List UInt8),(S.map fun l=>[al l .any]).flatten=S.map fun l=>al l .any:=by
    intro S;induction S with
    |nil=>rfl
    |cons a S ih=>simp only[List.map_cons,List.flatten_cons,List.singleton_append,ih]
  unfold Ps;rw[List.length_map,hf S]
def Zd:List Nat:=[0,1,28,2,29,14,24,3,30,22,20,15,25,17,4,8,31,27,13,23,21,19,16,7,26,12,18,6,11,5,10,9]
def Γd(g:Nat):List AV:=if g=0 then[wV Sha.H0.a,wV Sha.H0.b,wV Sha.H0.c,wV Sha.H0.d,wV Sha.H0.e,wV Sha.H0.f,wV Sha.H0.g,wV Sha.H0.h] else if g=1 then Sha.K.map wV else if g=2 then Zd.map oJ else if g=3 then fi.map oJ else[]
abbrev EC : List (String × DataW Unit):=[("math/bits.deBruijn32tab", Rows.laid_math_bits_deBruijn32tab),("math/bits.deBruijn64tab", Rows.laid_math_bits_deBruijn64tab),("engrosser/sha.rounds", Rows.laid_engrosser_sha_rounds),("engrosser/sha.start", Rows.laid_engrosser_sha_start)]
theorem ln{H:Type}{enc:TypeId×Value→H}{P:Program}{W:World}{base:Nat}{sp:Nat→Bool}{held:Bool}{fuel:Nat}{t e:TypeId}{n:Nat}{cs:List Value}{p:List MemPlace}{l:List Nat}{kd:IntKind}
    (hT:P.underlying t=some (.array n e)) (he:P.underlying e=some (.int kd)) (hc:P.cellsOf e=1)
    (h:DataW.trod enc P W base sp held fuel t cs=some (.agg (l.map fun(x:Nat)=>.lit (.int kd (x:Int))),p)):∀(i x:Nat),l[i]? =some x→cs[i]? =some (.int kd (x:Int)):=by
  obtain⟨xs,m,rfl,hx,hlen,hn,sD⟩:=DataW.trod_array hT h;simp only[Prod.mk.injEq,DataW.agg.injEq] at hx;intro i x hi;have h1:(l.map fun(x:Nat)=>DataW.lit (H:=H) (.int kd (x:Int)))[i]? =some (.lit (.int kd (x:Int))):=(by rw[List.getElem?_map,hi];rfl);rw[hx.1,List.getElem?_map] at h1;cases hy:xs[i]? with
  |none=>rw[hy] at h1;cases h1
  |some y=>
    rw[hy] at h1;simp only[Option.map_some,Option.some.injEq] at h1;have bJ:=(List.getElem?_eq_some_iff.1 hy).1;have h2:=sD i (by omega);rw[hy,hc,Nat.mul_one] at h2;obtain⟨k,e1,e2,_⟩:=DataW.trod_int he h2;rw[e2] at h1;simp only[DataW.lit.injEq,Lit.int.injEq,true_and] at h1;have h3:(List.take 1 (List.drop i cs))[0]? =some (.int kd k):=(by rw[e1];rfl);rw[List.getElem?_take,if_pos (by decide),List.getElem?_drop,Nat.add_zero,h1] at h3;exact h3
theorem PA : prog.globalNamed "engrosser/sha.rounds" = some 1:=by kernel_rfl
theorem Tz : prog.globalNamed "engrosser/sha.start" = some 0:=by kernel_rfl
theorem xcM : prog.globalNamed "math/bits.deBruijn32tab" = some 2:=by kernel_rfl
theorem xcN : prog.globalNamed "math/bits.deBruijn64tab" = some 3:=by kernel_rfl
theorem PB:(prog.globals[1]?).map (·.type)=some 246:=by kernel_rfl
theorem TA:(prog.globals[0]?).map (·.type)=some 215:=by kernel_rfl
theorem xcO:(prog.globals[2]?).map (·.type)=some 251:=by kernel_rfl
theorem xcP:(prog.globals[3]?).map (·.type)=some 232:=by kernel_rfl
theorem tU{kd:IntKind}{W:World}{g:Nat}{cs:Array Value}{l:List Nat}(hc:∀i,W.cell? ⟨g,i,none⟩=cs[i]?)(h:∀(i x:Nat),l[i]? =some x→cs.toList[i]? =some (.int kd (x:Int))):
    ∃vs,ar (G0 W) (l.map fun(x:Nat)=>.v (.int kd (x:Int))) vs∧gz (G0 W) g 0 vs:=by
  refine⟨l.map fun(x:Nat)=>.int kd (x:Int),?_,?_⟩
  · have:=ar.DK (G:=G0 W) (l.map fun(x:Nat)=>Value.int kd (x:Int));rwa [List.map_map] at this
  · intro j u hu;rw[List.getElem?_map] at hu;cases hj:l[j]? with
    |none=>rw[hj] at hu;cases hu
    |some x=>
      rw[hj] at hu;simp only[Option.map_some,Option.some.injEq] at hu;have:=h j x hj;show W.cell? ⟨g,0+j,none⟩=some u;rw[Nat.zero_add,hc j,←hu];simpa using this
theorem OP{W:World}(h:laidMetH prog EC W):∀g,∃vs,ar (G0 W) (Γd g) vs∧gz (G0 W) g 0 vs:=by
  rw[MakeChecks.laidMetH_plain _ _ _ (by kernel_rfl)] at h;obtain⟨ps,⟨g0,t0,cs0,f0,p0,q0,hg0,iG,Gg,Ze,⟨g1,t1,Ra,f1,p1,q1,QX,N9,hv1,NY,⟨g2,t2,Ov,f2,p2,q2,ON,PC,hv2,Kl,⟨g3,t3,cs3,f3,p3,q3,hg3,ht3,hv3,hd3,_,_⟩,_⟩,_⟩,_⟩,_,_⟩:=h;obtain rfl:=Option.some.inj (xcM.symm.trans hg0);obtain rfl:=Option.some.inj (xcN.symm.trans QX);obtain rfl:=Option.some.inj (PA.symm.trans ON);obtain rfl:=Option.some.inj (Tz.symm.trans hg3);obtain rfl:=Option.some.inj (xcO.symm.trans iG);obtain rfl:=Option.some.inj (xcP.symm.trans N9);obtain rfl:=Option.some.inj (PB.symm.trans PC);obtain rfl:=Option.some.inj (TA.symm.trans ht3);have h2:=tU (World.var?_cell hg0 Gg) (ln (l:=Zd) underlying251 underlying5 T.c5 Ze);have h3:=tU (World.var?_cell QX hv1) (ln (l:=fi) underlying232 underlying5 T.c5 NY);have h1:=tU (World.var?_cell ON hv2) (ln (l:=Sha.K) underlying246 underlying214 T.Cu Kl);have h0:=tU (World.var?_cell hg3 hv3) (ln (l:=Sha.H0.list) underlying215 underlying214 T.Cu hd3);intro g;by_cases e0:g=0
  · subst e0;exact h0
  · by_cases e1:g=1
    · subst e1;exact h1
    · by_cases e2:g=2
      · subst e2;exact h2
      · by_cases e3:g=3
        · subst e3;exact h3
        · refine⟨[],?_,fun j u h=>by simp at h⟩;simp[Γd,e0,e1,e2,e3,ar]
theorem Ll(os:Os)(args:Array Value):laidMetH prog EC ((World.doorLaid prog 400 os).forCall (fun _ _=>0) ⟨#[],args,[]⟩).memory:=by
  rw[MakeChecks.laidMetH_plain _ _ _ (by kernel_rfl)];exact laidMet_of_run' 8 (by kernel_rfl) (by kernel_rfl)
set_option maxRecDepth 100000
def Zf:List Char:=[Cnn 104,Cnn 97,Cnn 114,Cnn 110,Cnn 101,Cnn 115,Cnn 115,Cnn 32,Cnn 97,Cnn 57,Cnn 98,Cnn 52,Cnn 52,Cnn 102,Cnn 55,Cnn 102,Cnn 53,Cnn 55,Cnn 57,Cnn 98,Cnn 98,Cnn 48,Cnn 54,Cnn 101,Cnn 48,Cnn 101,Cnn 51,Cnn 51,Cnn 101,Cnn 98,Cnn 102,Cnn 102,Cnn 98,Cnn 48,Cnn 52,Cnn 54,Cnn 56,Cnn 100,Cnn 97,Cnn 54,Cnn 48,Cnn 98,Cnn 55,Cnn 57,Cnn 97,Cnn 55,Cnn 54,Cnn 57,Cnn 51,Cnn 100,Cnn 57,Cnn 51,Cnn 51,Cnn 50,Cnn 54,Cnn 97,Cnn 97,Cnn 97,Cnn 50,Cnn 57,Cnn 48,Cnn 97,Cnn 57,Cnn 56,Cnn 49,Cnn 51,Cnn 55,Cnn 102,Cnn 51,Cnn 49,Cnn 101,Cnn 50,Cnn 32,Cnn 99,Cnn 117,Cnn 116,Cnn 32,Cnn 97,Cnn 116,Cnn 32,Cnn 101,Cnn 110,Cnn 103,Cnn 114,Cnn 111,Cnn 115,Cnn 115,Cnn 101,Cnn 114,Cnn 47,Cnn 101,Cnn 110,Cnn 103,Cnn 114,Cnn 111,Cnn 115,Cnn 115,Cnn 101,Cnn 114,Cnn 108,Cnn 97,Cnn 119,Cnn 50,Cnn 49,Cnn 46,Cnn 80,Cnn 97,Cnn 116,Cnn 104,Cnn 77,Cnn 97,Cnn 107,Cnn 101,Cnn 115,Cnn 32,Cnn 101,Cnn 110,Cnn 103,Cnn 114,Cnn 111,Cnn 115,Cnn 115,Cnn 101,Cnn 114,Cnn 47,Cnn 101,Cnn 110,Cnn 103,Cnn 114,Cnn 111,Cnn 115,Cnn 115,Cnn 101,Cnn 114,Cnn 108,Cnn 97,Cnn 119,Cnn 50,Cnn 49,Cnn 46,Cnn 80,Cnn 97,Cnn 116,Cnn 104,Cnn 65,Cnn 112,Cnn 112,Cnn 108,Cnn 105,Cnn 101,Cnn 115,Cnn 32,Cnn 101,Cnn 110,Cnn 103,Cnn 114,Cnn 111,Cnn 115,Cnn 115,Cnn 101,Cnn 114,Cnn 47,Cnn 101,Cnn 110,Cnn 103,Cnn 114,Cnn 111,Cnn 115,Cnn 115,Cnn 101,Cnn 114,Cnn 108,Cnn 97,Cnn 119,Cnn 50,Cnn 49,Cnn 46,Cnn 80,Cnn 97,Cnn 116,Cnn 104,Cnn 76,Cnn 101,Cnn 97,Cnn 114,Cnn 110,Cnn 115,Cnn 32,Cnn 101,Cnn 110,Cnn 103,Cnn 114,Cnn 111,Cnn 115,Cnn 115,Cnn 101,Cnn 114,Cnn 47,Cnn 101,Cnn 110,Cnn 103,Cnn 114,Cnn 111,Cnn 115,Cnn 115,Cnn 101,Cnn 114,Cnn 108,Cnn 97,Cnn 119,Cnn 50,Cnn 49,Cnn 46,Cnn 80,Cnn 97,Cnn 116,Cnn 104,Cnn 69,Cnn 110,Cnn 116,Cnn 101,Cnn 114,Cnn 115,Cnn 32,Cnn 101,Cnn 110,Cnn 103,Cnn 114,Cnn 111,Cnn 115,Cnn 115,Cnn 101,Cnn 114,Cnn 47,Cnn 101,Cnn 110,Cnn 103,Cnn 114,Cnn 111,Cnn 115,Cnn 115,Cnn 101,Cnn 114,Cnn 108,Cnn 97,Cnn 119,Cnn 50,Cnn 49,Cnn 46,Cnn 80,Cnn 97,Cnn 116,Cnn 104,Cnn 82,Cnn 101,Cnn 97,Cnn 100,Cnn 115]
def ve:List (List Char):=[[Cnn 104,Cnn 97,Cnn 114,Cnn 110,Cnn 101,Cnn 115,Cnn 115],
  [Cnn 97,Cnn 57,Cnn 98,Cnn 52,Cnn 52,Cnn 102,Cnn 55,Cnn 102,Cnn 53,Cnn 55,Cnn 57,Cnn 98,Cnn 98,Cnn 48,Cnn 54,Cnn 101,Cnn 48,Cnn 101,Cnn 51,Cnn 51,Cnn 101,Cnn 98,Cnn 102,Cnn 102,Cnn 98,Cnn 48,Cnn 52,Cnn 54,Cnn 56,Cnn 100,Cnn 97,Cnn 54,Cnn 48,Cnn 98,Cnn 55,Cnn 57,Cnn 97,Cnn 55,Cnn 54,Cnn 57,Cnn 51,Cnn 100,Cnn 57,Cnn 51,Cnn 51,Cnn 50,Cnn 54,Cnn 97,Cnn 97,Cnn 97,Cnn 50,Cnn 57,Cnn 48,Cnn 97,Cnn 57,Cnn 56,Cnn 49,Cnn 51,Cnn 55,Cnn 102,Cnn 51,Cnn 49,Cnn 101,Cnn 50],
  [Cnn 99,Cnn 117,Cnn 116],
  [Cnn 97,Cnn 116],
  [Cnn 101,Cnn 110,Cnn 103,Cnn 114,Cnn 111,Cnn 115,Cnn 115,Cnn 101,Cnn 114,Cnn 47,Cnn 101,Cnn 110,Cnn 103,Cnn 114,Cnn 111,Cnn 115,Cnn 115,Cnn 101,Cnn 114,Cnn 108,Cnn 97,Cnn 119,Cnn 50,Cnn 49,Cnn 46,Cnn 80,Cnn 97,Cnn 116,Cnn 104,Cnn 77,Cnn 97,Cnn 107,Cnn 101,Cnn 115],
  [Cnn 101,Cnn 110,Cnn 103,Cnn 114,Cnn 111,Cnn 115,Cnn 115,Cnn 101,Cnn 114,Cnn 47,Cnn 101,Cnn 110,Cnn 103,Cnn 114,Cnn 111,Cnn 115,Cnn 115,Cnn 101,Cnn 114,Cnn 108,Cnn 97,Cnn 119,Cnn 50,Cnn 49,Cnn 46,Cnn 80,Cnn 97,Cnn 116,Cnn 104,Cnn 65,Cnn 112,Cnn 112,Cnn 108,Cnn 105,Cnn 101,Cnn 115],
  [Cnn 101,Cnn 110,Cnn 103,Cnn 114,Cnn 111,Cnn 115,Cnn 115,Cnn 101,Cnn 114,Cnn 47,Cnn 101,Cnn 110,Cnn 103,Cnn 114,Cnn 111,Cnn 115,Cnn 115,Cnn 101,Cnn 114,Cnn 108,Cnn 97,Cnn 119,Cnn 50,Cnn 49,Cnn 46,Cnn 80,Cnn 97,Cnn 116,Cnn 104,Cnn 76,Cnn 101,Cnn 97,Cnn 114,Cnn 110,Cnn 115],
  [Cnn 101,Cnn 110,Cnn 103,Cnn 114,Cnn 111,Cnn 115,Cnn 115,Cnn 101,Cnn 114,Cnn 47,Cnn 101,Cnn 110,Cnn 103,Cnn 114,Cnn 111,Cnn 115,Cnn 115,Cnn 101,Cnn 114,Cnn 108,Cnn 97,Cnn 119,Cnn 50,Cnn 49,Cnn 46,Cnn 80,Cnn 97,Cnn 116,Cnn 104,Cnn 69,Cnn 110,Cnn 116,Cnn 101,Cnn 114,Cnn 115],
  [Cnn 101,Cnn 110,Cnn 103,Cnn 114,Cnn 111,Cnn 115,Cnn 115,Cnn 101,Cnn 114,Cnn 47,Cnn 101,Cnn 110,Cnn 103,Cnn 114,Cnn 111,Cnn 115,Cnn 115,Cnn 101,Cnn 114,Cnn 108,Cnn 97,Cnn 119,Cnn 50,Cnn 49,Cnn 46,Cnn 80,Cnn 97,Cnn 116,Cnn 104,Cnn 82,Cnn 101,Cnn 97,Cnn 100,Cnn 115]]
theorem Zg:prog.initOrder=String.ofList Zf:=by kernel_rfl
theorem words:wordsSigns prog.initOrder.toList=ve:=by
  rw[Zg,String.toList_ofList];kernel_rfl
theorem both{a b:Bool}(h:a=true)(k:b=true):(a&&b)=true:=by rw[h,k];rfl
theorem OR{a b:Bool}(h:b=a):(a==b)=true:=by rw[h];cases a<;>rfl
theorem OT{a b:Option Make}(h:a=b):(a==b)=true:=by rw[h];exact beq_self_eq_true _
theorem Bz (r : List (List Char)) : stripLifts liftWords ("cut".toList :: r) = ([], "cut".toList :: r):=by kernel_rfl
theorem BA {P : Program} {r} (h : behindMainWord (wordsSigns P.initOrder.toList) = "cut".toList :: r) : P.headLifts = []:=by
  unfold Program.headLifts;rw[h,Bz];kernel_rfl
theorem Md {P : Program} {r} (h : behindMainWord (wordsSigns P.initOrder.toList) = "cut".toList :: r) : P.make = some .cut:=by
  unfold Program.make;rw[h,BA h];kernel_rfl
theorem JO {P : Program} {r} (h : behindMainWord (wordsSigns P.initOrder.toList) = "cut".toList :: r) : P.liftsFinal = false:=by
  unfold Program.liftsFinal;rw[h,BA h];kernel_rfl
theorem Me {P : Program} {s r} (h : wordsSigns P.initOrder.toList = "harness".toList :: s :: r) (hs : isSumSigns s = true) : P.mainIs = some (true,s):=by
  unfold Program.mainIs;rw[h];dsimp only;rw[hs];kernel_rfl
theorem PE {P : Program} {r} (h : behindMainWord (wordsSigns P.initOrder.toList) = "cut".toList :: r) (hl : P.laysLater = false) (hr : P.bearsReflect = false) (hd : P.doorFits [] = true) : P.mayEnter = true:=by
  unfold Program.mayEnter;rw[h,hl,hr];dsimp only;rw[Bz];dsimp only;rw[hd];kernel_rfl
theorem behind : behindMainWord (wordsSigns prog.initOrder.toList) = "cut".toList :: ve.drop 3:=(congrArg behindMainWord words).trans (by kernel_rfl)
theorem Lm:prog.make=some .cut:=Md behind
theorem Ln : prog.mainIs = some (true, "a9b44f7f579bb06e0e33ebffb0468da60b79a7693d93326aaa290a98137f31e2".toList):=Me (r:=ve.drop 2) (words.trans (by kernel_rfl)) (by kernel_rfl)
theorem OQ:prog.mayEnter=true:=PE behind (by kernel_rfl) (by kernel_rfl) (by kernel_rfl)
theorem OS:prog.liftsFinal=false:=JO behind
end Go.Proofs.YtbiefppedlodiaaGreatDoor
