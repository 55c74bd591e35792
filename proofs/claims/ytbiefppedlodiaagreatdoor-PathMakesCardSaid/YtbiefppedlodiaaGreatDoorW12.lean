/- Contracts of functions, each walked once; each theorem states its conditions. -/
import Derived.Test.YtbiefppedlodiaaGreatDoorAMp6
import Derived.Test.YtbiefppedlodiaaGreatDoorW1
import Derived.Test.YtbiefppedlodiaaGreatDoorW11
import Derived.Test.YtbiefppedlodiaaGreatDoorW10
import Derived.Test.YtbiefppedlodiaaGreatDoorAMp7
import Derived.Test.YtbiefppedlodiaaGreatDoorW6
import Derived.Test.YtbiefppedlodiaaGreatDoorW4
open Bool renaming and_eq_true -> ar, and_true -> cI, eq_iff_iff -> bB
open Int renaming toNat_natCast -> aw
open List renaming all_eq_true -> av, getD -> a7, getElem?_eq_getElem -> ae, length_drop -> bW, length_map -> aQ, length_set -> bY, map_cons -> aB, map_nil -> bZ, mem_range -> bt, nil_append -> aF, range -> aq, range_succ -> di, replicate -> ai, take -> a8, take_of_length_le -> af, take_succ_eq_append_getElem -> ad
open Nat renaming le_refl -> aE, zero_le -> ax
open Option renaming getD_some -> bm
set_option linter.unusedSimpArgs false
set_option linter.unusedVariables false
open Nat renaming reduceLT -> Na, reduceLeDiff -> Nb, reduceEqDiff -> Nc, reduceAdd -> Nk, reduceMul -> Nf, reducePow -> Ng, reduceSub -> Nh, reduceBEq -> Nz
open Int renaming reduceLT -> Za, reduceLE -> Zb, reduceToNat -> Zc
open And renaming intro -> Ai
open Go.AM renaming ashift -> Qa, aconv -> Qb, aindexAddr -> Qc, aindex -> Qd, aslice -> Qe, abuiltin -> Qf, awp_reg_seq -> wS, awp_reg_end -> wE, awp_seq_k -> wK, awp_cond_k -> wC
open Go.AM.AV renaming cells -> Qg, one -> Qh
set_option maxRecDepth 100000
set_option maxHeartbeats 8000000
namespace Go.Proofs.YtbiefppedlodiaaGreatDoor
open Go Go.AM Go.Proofs Tryz
variable{Γ:Nat->List AV}
def uu:List UInt8:=[108,101,97,102]
def vD(d:List UInt8):Nat:=gp (Kdf.derive d uu)
def mM(d:List UInt8):Nat:=3^vD d%PP
def kt(t:List cH)(lf:Nat)(fresh:List Int)(i:Nat):List Int:=ff t (fE (nodeAt lf (ee t) i):Nat) fresh
def eI(d:List UInt8)(m:Nat):List Nat:=(aq m).map fun i=>od (fw d (i+1))
def eG(t:List cH)(lf:Nat)(d ctx:List UInt8)(fresh:List Int)(m:Nat):List ft:=(aq m).map fun i=>kB t d ctx i (kt t lf fresh i)
def vE(d:List UInt8)(pT:List Nat)(i:Nat):fa:=⟨(pT.getD i 0:Nat),rJ (fw d (i+1))⟩
def fg(lf:Nat)(d:List UInt8)(pT:List Nat)(m:Nat):List fa:=⟨(2*lf:Nat),vD d⟩::(aq m).map (vE d pT)
def pD(t:List cH)(lf:Nat)(d:List UInt8)(fresh:List Int)(m:Nat):Bool:=(aq m).all fun i=>stepG d i (kt t lf fresh i)
structure p7 where
 p:ia
 t:List cH
 held:List fa
 Nn:List UInt8
def p7.no:p7:=⟨⟨0,[],[]⟩,[],[],[]⟩
def rm(t:List cH)(lf:Nat)(d:List UInt8)(fresh:List Int):List cH:=iK t lf (mM d) (eI d (dR lf (ee t)).length) fresh
def kY(t:List cH)(lf:Nat)(d ctx:List UInt8)(fresh:List Int):p7:=
 ⟨⟨mM d,(nd (rm t lf d fresh) (2*lf)).parent,eG t lf d ctx fresh (dR lf (ee t)).length⟩,rm t lf d fresh,fg lf d (dR lf (ee t)) (dR lf (ee t)).length,fw d ((dR lf (ee t)).length+1)⟩
def jy(t:List cH)(leaf:Int)(d ctx:List UInt8)(fresh:List Int):p7×Int:=
 if qn t leaf≠0 then(p7.no,qn t leaf) else if d.length≠32 then(p7.no,2) else if lV (mM d)=false then(p7.no,30) else
 if pD t leaf.toNat d fresh (dR leaf.toNat (ee t)).length=false then(p7.no,30) else(kY t leaf.toNat d ctx fresh,0)
theorem xb(d:List UInt8)(i:Nat):eI d (i+1)=eI d i++[od (fw d (i+1))]:=by simp[eI,di]
theorem vF(t:List cH)(lf:Nat)(d ctx:List UInt8)(fresh:List Int)(i:Nat):eG t lf d ctx fresh (i+1)=eG t lf d ctx fresh i++[kB t d ctx i (kt t lf fresh i)]:=by simp[eG,di]
theorem xc(lf:Nat)(d:List UInt8)(pT:List Nat)(i:Nat):fg lf d pT (i+1)=fg lf d pT i++[vE d pT i]:=by simp[fg,di]
theorem OB(d:List UInt8):vD d<2^64:=by have:=wc (Kdf.derive d uu);unfold vD;omega
def D4(M:p7)(e:Int):AV:=.ka [.agg M.p.cells,eA M.t,lT M.held,dm M.Nn .any,.v (.int .i64 e)]
theorem CD{t:List cH}{lf i:Nat}(fN:Fit (ee t))(kS:lf<ee t)(nD:t.length=2*ee t-1)(hi:i<(dR lf (ee t)).length):fE (nodeAt lf (ee t) i)<t.length:=by
 obtain⟨h1,h2,-⟩:=rn fN kS hi;have:=(we fN h1 h2).2.2.2.2;omega
theorem SU(t:List cH)(leaf:Nat)(keys:List Nat)(fresh:List Int):∀i,(sy t leaf keys fresh i).2.length<=32
 |0=>ax _
 |i+1=>by
  simp only[sy];unfold tQ;split
  ·rw[Sha.im];decide
  ·exact ax _
theorem V1(l:List cH){k:Nat}(h:k<l.length)(x:cH):nd (l.set k x) k=x:=by simp[nd,a7,h]
theorem P9(t:List cH)(leaf key:Nat)(keys:List Nat)(fresh:List Int)(h:2*leaf<t.length):(nd (iK t leaf key keys fresh) (2*leaf)).parent.length<=32:=by
 unfold iK;simp only;rw[V1 _ (by rw[lW];exact h)];exact SU ..
theorem zh(jg:Γ 0=jZ Sha.H0)(mC:Γ 1=Sha.K.map wV)(hG:Γ 3=lQ.map uU)(t:List cH)(ht:iD t)(LV:t.length<=2^30)(hw:∀n∈t,sR n)(leaf:Int)
  (d ctx:List UInt8) (hd:d.length<=2^36) (DY:ctx.length<=2^30) (fresh:List Int) (hf:fresh.length<=2^40) (s:AS):
  dS prog Γ 10 [eA t,.v (.int .i64 leaf),dm d .any,dm ctx .any,ea fresh .any] s (fun r s'=>r=D4 (jy t leaf d ctx fresh).1 (jy t leaf d ctx fresh).2∧s'=s):=by
 refine rT func10 rfl ntmps10 results10 (by simp) ?_;have KD:=fun s=>BL (Γ:=Γ) hG t ht leaf s;have jf:=fun s=>oe (Γ:=Γ) hG t ht s;have SR:=fun n s=>gz (Γ:=Γ) n s;obtain⟨R,hR⟩:∃R,R=jy t leaf d ctx fresh:=⟨_,rfl⟩;rw[<-hR];obtain⟨R1,R2⟩:=R;simp only;unfold jy at hR;have mq:∀(nP:Nat)(e:Int),R1=p7.no->R2=e->∀(E:Env)(s5:AS),s.le s5->s5.dD nP=some [.v (.int .u64 0),.v (.slice none 0 0),.v (.slice none 0 0)]->E 10=.ptr nP 0->E 11=.v (.slice none 0 0)->E 12=.v (.slice none 0 0)->E 13=.v (.slice none 0 0)->E 14=.v (.int .i64 e)->
   fX prog (#[ResultVar.cell 10 32,ResultVar.tmp 11,ResultVar.tmp 12,ResultVar.tmp 13,ResultVar.tmp 14]:Array ResultVar).toList (fun r s'=>r=D4 R1 R2∧s'=s) .ret E s5:=by
  intro nP e h1 h2 E s5 hle ho f10 f11 f12 f13 f14;subst h1 h2;refine ur (o:=nP) (off:=0) f10 ho (by rw[T.c32];decide) (by simp only[↓DN,Qa,Qb,Qc,Qd,Qe,Qf,Qg,Qh,reduceCtorEq,↓reduceIte,Na,Nb,Nc,Nk,Nf,Ng,Nh,Za,Zb,Zc,TT];rfl) ?_;rw[f11,f12,f13,f14];exact⟨_,s,AV.Gx (.cons (AV.qS (.cons (AV.dV.refl _) (.cons AV.eh (.cons AV.eh .nil)))) (.cons AV.eh (.cons AV.eh (.cons AV.eh (.cons (AV.dV.refl _) .nil))))),hle,rfl,rfl⟩
 unfold eA at KD jf⊢;unfold ea dm;refine fo ?_;intro K1 iW;refine jT fun K hK=>?_;intro nP OC;refine hK _ _ (iW _ _ ?_);clear hK K iW K1;have OD:=AS.bG s nP [.v (.int .u64 0),.v (.slice none 0 0),.v (.slice none 0 0)];have hle:=AS.dW (AS.le.refl s) OC [.v (.int .u64 0),.v (.slice none 0 0),.v (.slice none 0 0)];generalize s.set nP [.v (.int .u64 0),.v (.slice none 0 0),.v (.slice none 0 0)]=s1 at *
 refine fo ?_;intro K1 iW;refine jK (KD _) ?_;rintro s2 rfl;by_cases he:qn t leaf=0
 ·have e0:(qn t leaf != 0)=false:=(by simp[he]);rw[if_neg (by rw[he];simp)] at hR;refine jB @e0 ?_;refine jF ?_;refine dX ?_;refine iW _ _ ?_;clear iW K1;obtain⟨hr,hm⟩:=oR.1 he;obtain⟨lf,rfl⟩:=Int.eq_ofNat_of_zero_le hm.1;obtain⟨fN,nD⟩:Fit (ee t)∧t.length=2*ee t-1:=by
   rcases fA (t:=t) with h|h
   ·exact absurd h hr.1
   ·exact h
  have uK:=fN.le;have kS:lf<ee t:=by
   have:=hm.2.1;omega
  refine fo ?_;intro K1 iW;by_cases ye:d.length=32
  ·have e2:((d.length:Int) != 32)=false:=(by rw[ye];rfl);rw[if_neg (fun k=>k ye)] at hR;refine jB @e2 ?_;refine jF ?_;refine dX ?_;refine iW _ _ ?_;clear iW K1;have Np:=fun s=>qm (Γ:=Γ) jg mC d uu hd (by decide) s;have pR:=fun s=>tN (Γ:=Γ) jg mC (Kdf.derive d uu) (by rw[ml];decide) s;have KA:=fun s=>kW (Γ:=Γ) (vD d) (OB d) s;have BM:∀s,dS prog Γ 41 [dm (Kdf.derive d uu) .any] s (fun r s'=>r=.v (.int .u64 (vD d:Nat))∧s'=s):=pR;have zi:∀s,dS prog Γ 43 [.v (.int .u64 (vD d:Nat))] s (fun r s'=>r=.v (.int .u64 (mM d:Nat))∧s'=s):=KA;clear pR KA;have Ce:=fun s=>SR (mM d) s;generalize Kdf.derive d uu=dl at *
   obtain⟨ok,mR⟩:∃ok,ok=vD d:=⟨_,rfl⟩;obtain⟨op,lJ⟩:∃op,op=mM d:=⟨_,rfl⟩;rw[<-mR] at BM zi;rw[<-lJ] at zi Ce hR;unfold dm uu at Np;unfold dm at BM;refine kC ?_;intro K hK;refine jO ?_;refine b6 (Np _) ?_;rintro r s3 ⟨rfl,rfl⟩;refine jM ?_;refine b6 (BM _) ?_;rintro r s4 ⟨rfl,rfl⟩;refine jR hK ?_;clear hK K;refine kC ?_;intro K hK;refine jO ?_;refine b6 (zi _) ?_;rintro r s5 ⟨rfl,rfl⟩;refine jM ?_;intro Ji q17;refine hK _ _ ?_;clear hK K;have gP:Ji≠nP:=(fun e=>by subst e;rw[OD] at q17;cases q17);have LX:s5.dD Ji=none:=q17;have s17:=none_le hle LX;have D5:=(AS.cO s5 (Ne.symm gP) [.v (.int .u64 op),.v (.slice none 0 0),.v (.slice none 0 0)]).trans OD;have V2:=AS.bG s5 Ji [.v (.int .u64 op),.v (.slice none 0 0),.v (.slice none 0 0)];have Nl:=AS.dW hle s17 [.v (.int .u64 op),.v (.slice none 0 0),.v (.slice none 0 0)];generalize s5.set Ji [.v (.int .u64 op),.v (.slice none 0 0),.v (.slice none 0 0)]=s6 at *
   clear OD hle q17 LX;refine fo ?_;intro K1 iW;obtain⟨q,hq⟩:∃q,q=lV op:=⟨_,rfl⟩;have LW:(decide (2<=(op:Int))&&decide ((op:Int)<=2305843009213693949))=q:=hq.symm;rw[LW] at Ce;rw[<-hq] at hR;refine jS @V2 fun K hK=>?_;refine b6 (Ce _) ?_;rintro r s7 ⟨rfl,rfl⟩;cases q with
   |false=>
    rw[if_pos rfl] at hR;refine jR hK ?_;clear hK K;refine jE ?_;refine jB @D5 ?_;refine eF ?_;try simp only[dJ,dn]
    exact mq nP 30 (congrArg (·.1) hR) (congrArg (·.2) hR) _ _ (rk Nl OC _) (AS.bG _ _ _) rfl rfl rfl rfl rfl
   |true=>
    rw[if_neg (by decide)] at hR;refine jR hK ?_;clear hK K;refine jF ?_;refine dX ?_;refine iW _ _ ?_;clear iW K1 Ce zi BM Np;rw[if_pos hr] at jf;have oA:=fun s=>qi (Γ:=Γ) hG lf (ee t) fN kS s;have JB:=fun s=>og (Γ:=Γ) hG lf (ee t) fN kS s;have Ni:(ew (gT lf (ee t))).length=(dR lf (ee t)).length:=(by simp[fh,gT]);have Gt:=fh (dR lf (ee t));have Cu:=kV fN kS;unfold ea at oA JB;rw[Gt] at oA;rw[Ni] at JB;have CQ:∀a b:AV,rF 2 [a,b]=[a,b]:=fun _ _=>rfl;refine kC ?_;intro K hK;refine jO ?_;refine b6 (jf _) ?_;rintro r s8 ⟨rfl,rfl⟩;refine jR hK ?_;clear hK K;refine kC ?_;intro K hK;refine jP (Ai (fp lf (by omega)) @CQ) ?_;refine hK _ _ ?_;clear hK K;refine kC ?_;intro K hK;refine jO ?_;refine b6 (JB _) ?_;rintro r s9 ⟨rfl,rfl⟩;refine jR hK ?_;clear hK K;refine kC ?_;intro K hK;refine jO ?_;refine hK _ _ ?_;clear hK K;refine fo ?_;intro K1 iW;refine jK (oA _) ?_;rintro Sj rfl;have ZB:∀i,i<(dR lf (ee t)).length->(List.take 1 (List.drop i ((ew (gT lf (ee t))).map ed)))[0]? =some (AV.v (.int .i64 (fE (nodeAt lf (ee t) i):Nat))):=by
     intro i hi;simp[List.getElem?_take,ew,gT,hi,ed]
    have hUg:∀i,i<(dR lf (ee t)).length->(List.take 1 (List.drop i ((ew (dR lf (ee t))).map ed)))[0]? =some (AV.v (.int .i64 ((dR lf (ee t)).getD i 0:Nat))):=by
     intro i hi;simp[List.getElem?_take,ew,hi,ed]
    have gN:=fun i(hi:i<(dR lf (ee t)).length)s=>Ic (Γ:=Γ) jg mC hG t ht hr i (by omega) (fE (nodeAt lf (ee t) i)) (CD fN kS nD hi) d ctx hd DY fresh hf s;have mj:=fun i(hi:i<(dR lf (ee t)).length+1)s=>vB (Γ:=Γ) jg mC d hd i (by omega) s;have Gy:=fun key keys hk s=>zj (Γ:=Γ) jg mC hG t ht LV hw hr lf hm key keys hk fresh hf s;unfold eA dm ea at gN;unfold dm at mj;obtain⟨H0,SW⟩:∃H0,H0=AV.sl 2 1 [.v (.int .i64 (2*lf:Nat)),.v (.int .u64 ok)] .new:=⟨_,rfl⟩;have xkf:∀i,kt t lf fresh i=ff t (fE (nodeAt lf (ee t) i):Nat) fresh:=fun _=>rfl;have ZD:∀i,(hi:i<(dR lf (ee t)).length)->∀s,dS prog Γ 48 [.sl 5 t.length (eb cH.cells t) .any,.v (.int .i64 i),.v (.int .i64 (fE (nodeAt lf (ee t) i):Nat)),.sl 1 d.length (d.map cU) .any,.sl 1 ctx.length (ctx.map cU) .any,.sl 1 fresh.length (fresh.map ed) .any] s
      (fun r s'=>r=.ka [.agg (if stepG d i (kt t lf fresh i)=true then kB t d ctx i (kt t lf fresh i) else⟨0,[]⟩).cells,.v (.int .i64 (if stepG d i (kt t lf fresh i)=true then 0 else 30))]∧s'=s):=gN
    clear gN;rw[<-SW];rw[Int.toNat_natCast] at hR;generalize hXe:eb cH.cells t=X at *
    generalize ZE:dR lf (ee t)=P at *
    generalize ew (gT lf (ee t))=SD at *
    generalize ew P=U at *
    refine dH ?_;refine dU (fun E s2=>∃(i:Nat)(zP zK zH:AV),i<=P.length∧(∀j,j<i->stepG d j (kt t lf fresh j)=true)∧E 63=.v (.int .i64 i)∧E 62=.v (.int .i64 P.length)∧E 61=.sl 1 P.length (U.map ed) .any∧E 0=.sl 5 t.length X .any∧E 1=.v (.int .i64 lf)∧E 2=.sl 1 d.length (d.map cU) .any∧E 3=.sl 1 ctx.length (ctx.map cU) .any∧E 4=.sl 1 fresh.length (fresh.map ed) .any∧
      E 10=.ptr nP 0∧E 17=.ptr Ji 0∧E 20=.sl 1 P.length (SD.map ed) .any∧E 21=zK∧E 19=zH∧s2.dD nP=some [.v (.int .u64 0),.v (.slice none 0 0),.v (.slice none 0 0)]∧s2.dD Ji=some [.v (.int .u64 op),.v (.slice none 0 0),zP]∧gA 2 s s2 zP i (eb ft.cells (eG t lf d ctx fresh i)) eW 0 []∧gA 1 s s2 zK i ((eI d i).map iE) eW 0 []∧gA 2 s s2 zH (i+1) (eb fa.cells (fg lf d P i)) H0 1 [.v (.int .i64 (2*lf:Nat)),.v (.int .u64 ok)]∧
      (∀t,eY zP=some t->eY zK≠some t)∧(∀t,eY zP=some t->eY zH≠some t)∧(∀t,eY zK=some t->eY zH≠some t)∧s.le s2)
     (fun E _=>match E 63 with |.v (.int _ i)=>P.length-i.toNat|_=>0) ?_ ?_
    ·exact⟨0,eW,eW,H0,Nat.zero_le _,fun j h=>absurd h (Nat.not_lt_zero _),rfl,rfl,rfl,rfl,rfl,rfl,rfl,rfl,rfl,rfl,rfl,rfl,rfl,D5,V2,.inl ⟨rfl,rfl,rfl⟩,.inl ⟨rfl,rfl,rfl⟩,
      .inl ⟨rfl,rfl,by rw[mR];rfl⟩,(fun t h=>by cases h),(fun t h=>by cases h),(fun t h=>by cases h),Nl⟩
    ·clear D5 V2 Nl;rintro E1 Sv ⟨i,zP,zK,zH,hi,Jg,g63,Su,Zs,g0,g1,g2,g3,g4,g10,g17,g20,g21,g19,D5,V2,bP,bK,bH,dPK,dPH,dKH,hle⟩ -
     by_cases et:i<P.length
     ·have fB:((i:Nat):Int)<((P.length:Nat):Int):=(by omega);have gC:(0:Int)<=((i:Nat):Int):=(by omega);have Ph:=ZB i et;have UT:=hUg i et;have c1:=fun s=>ZD i et s;have c2:=fun s=>mj i (by omega) s;have wY:=sQ d i;have c3:=fun s=>sx (Γ:=Γ) jg mC (fw d (i+1)) (by omega) s;refine jB (Ai @Su (Ai @g63 (decide_eq_true fB))) ?_;refine wK fun K2 eH=>?_;refine jE ?_;refine dX ?_;refine eH _ _ ?_;clear eH K2;refine wK fun K3 eX=>?_;refine dH ?_;refine jB (Ai @Zs (Ai @g63 (Ai @fB (Ai @gC @UT)))) ?_;cases Jh:stepG d i (kt t lf fresh i) with
      |false=>
       have hRb:R1=p7.no∧R2=30:=by
        have hb:pD t lf d fresh P.length=false:=by
         unfold pD;rw[List.all_eq_false];exact⟨i,List.mem_range.2 et,by rw[Jh];decide⟩
        rw[if_pos hb] at hR;exact⟨congrArg (·.1) hR,congrArg (·.2) hR⟩
       simp only[Jh,Bool.false_eq_true,if_false,ft.cells] at c1;refine ev 24 (by decide) ?_;intro K4 jm;refine jN (Ai @g20 (Ai @g0 (Ai @g2 (Ai @g3 (Ai @g4 (Ai @fB (Ai @gC @Ph))))))) ?_;refine b6 (c1 _) ?_;rintro r X5 ⟨rfl,rfl⟩;refine jM ?_;intro o2 q2;refine jm _ _ o2 _ rfl q2 ?_;clear jm K4 q2;refine wK fun K4 jm=>?_;have e30:((30:Int) != 0)=true:=rfl;refine jB @e30 ?_;refine jE ?_;refine jB (Ai @g10 @D5) ?_;refine eF ?_;try simp only[dJ,dn]
       exact mq nP 30 hRb.1 hRb.2 _ _ (rk hle OC _) (AS.bG _ _ _) g10 rfl rfl rfl rfl
      |true=>
       simp only[Jh,if_true] at c1;have US:((0:Int) != 0)=false:=rfl;have lA:=vF t lf d ctx fresh i;have oq:=xb d i;have LY:=xc lf d P i;have hSk:(kB t d ctx i (kt t lf fresh i)).key=od (fw d (i+1)):=rfl;have hSh:vE d P i=⟨(P.getD i 0:Nat),rJ (fw d (i+1))⟩:=rfl;rw[hSh] at LY;rw[<-hSk] at oq;generalize kB t d ctx i (kt t lf fresh i)=S at *
       generalize rJ (fw d (i+1))=ky at *
       generalize fw d (i+1)=sc at *
       obtain⟨sk,sl⟩:=S;simp only[ft.cells] at c1;simp only at oq;have X6:eb ft.cells [⟨sk,sl⟩]=[.v (.int .u64 (sk:Nat)),.sl 2 sl.length (eb gg.cells sl) .any]:=rfl;generalize eb gg.cells sl=SL at *
       unfold dm at c3;refine ev 24 (by decide) ?_;intro K4 jm;refine jN (Ai @g20 (Ai @g0 (Ai @g2 (Ai @g3 (Ai @g4 (Ai @fB (Ai @gC @Ph))))))) ?_;refine b6 (c1 _) ?_;rintro r X5 ⟨rfl,rfl⟩;refine jM ?_;intro o2 q2;refine jm _ _ o2 _ rfl q2 ?_;clear jm K4 q2;refine wK fun K4 jm=>?_;refine jB @US ?_;refine jF ?_;refine dX ?_;refine jm _ _ ?_;clear jm K4;have SX:eY H0=none:=(by rw[SW];rfl);have KE:∀(L:List Nat)(x:Nat),(L++[x]).map iE=L.map iE++[.v (.int .u64 (x:Nat))]:=(fun L x=>by simp[iE]);obtain⟨F,hF⟩:∃F:Env->Prop,F=fun E=>E 63=.v (.int .i64 i)∧E 62=.v (.int .i64 P.length)∧E 61=.sl 1 P.length (U.map ed) .any∧E 0=.sl 5 t.length X .any∧E 1=.v (.int .i64 lf)∧E 2=.sl 1 d.length (d.map cU) .any∧E 3=.sl 1 ctx.length (ctx.map cU) .any∧E 4=.sl 1 fresh.length (fresh.map ed) .any∧E 10=.ptr nP 0∧E 17=.ptr Ji 0∧E 20=.sl 1 P.length (SD.map ed) .any:=⟨_,rfl⟩;have V3:∀(E:Env)(s7:AS)(zP zK zH:AV),F E->E 21=zK->E 19=zH->s7.dD nP=some [.v (.int .u64 0),.v (.slice none 0 0),.v (.slice none 0 0)]->s7.dD Ji=some [.v (.int .u64 op),.v (.slice none 0 0),zP]->gA 2 s s7 zP (i+1) (eb ft.cells (eG t lf d ctx fresh (i+1))) eW 0 []->gA 1 s s7 zK (i+1) ((eI d (i+1)).map iE) eW 0 []->gA 2 s s7 zH (i+1+1) (eb fa.cells (fg lf d P (i+1))) H0 1 [.v (.int .i64 (2*lf:Nat)),.v (.int .u64 ok)]->
         (∀t,eY zP=some t->eY zK≠some t)->(∀t,eY zP=some t->eY zH≠some t)->(∀t,eY zK=some t->eY zH≠some t)->s.le s7->K3 E s7:=by
        intro E s7 zP zK zH fF f21 f19 xP Nq Ie Nr Ns x1 x2 x3 Ig;rw[hF] at fF;obtain⟨f63,f62,f61,f0,f1,f2,f3,f4,f10,f17,f20⟩:=fF;refine eX _ _ ?_;clear eX K3;refine jD (Ai @f63 (eK i (by omega))) ?_;refine⟨⟨i+1,zP,zK,zH,et,?_,rfl,f62,f61,f0,f1,f2,f3,f4,f10,f17,f20,f21,f19,xP,Nq,Ie,Nr,Ns,x1,x2,x3,Ig⟩,?_⟩
        ·intro j hj;by_cases e:j=i
         ·subst e;exact Jh
         ·exact Jg j (by omega)
        ·simp only[g63,dY,↓reduceIte];omega
       clear eX;refine wK fun K5 mE=>?_;have hJ5:∀(E:Env)(s5:AS)(zP:AV),F E->E 22=.v (.int .i64 i)->E 23=.v (.int .i64 (P.getD i 0:Nat))->E 24=.ij [.v (.int .u64 sk),.sl 2 sl.length SL .any]->E 21=zK->E 19=zH->s5.dD nP=some [.v (.int .u64 0),.v (.slice none 0 0),.v (.slice none 0 0)]->s5.dD Ji=some [.v (.int .u64 op),.v (.slice none 0 0),zP]->gA 2 s s5 zP (i+1) (eb ft.cells (eG t lf d ctx fresh (i+1))) eW 0 []->gA 1 s s5 zK i ((eI d i).map iE) eW 0 []->gA 2 s s5 zH (i+1) (eb fa.cells (fg lf d P i)) H0 1 [.v (.int .i64 (2*lf:Nat)),.v (.int .u64 ok)]->
         (∀t,eY zP=some t->eY zK≠some t)->(∀t,eY zP=some t->eY zH≠some t)->(∀t,eY zK=some t->eY zH≠some t)->s.le s5->K5 E s5:=by
        intro E s5 zP fF f22 f23 f24 f21 f19 xP Nq Ie Nr Ns x1 x2 x3 Ig;refine mE _ _ ?_;clear mE K5;clear bP bK bH;refine wK fun K6 ll=>?_;have hJ6:∀(E:Env)(s6:AS)(zK:AV),F E->E 22=.v (.int .i64 i)->E 23=.v (.int .i64 (P.getD i 0:Nat))->E 21=zK->E 19=zH->s6.dD nP=some [.v (.int .u64 0),.v (.slice none 0 0),.v (.slice none 0 0)]->s6.dD Ji=some [.v (.int .u64 op),.v (.slice none 0 0),zP]->gA 2 s s6 zP (i+1) (eb ft.cells (eG t lf d ctx fresh (i+1))) eW 0 []->gA 1 s s6 zK (i+1) ((eI d (i+1)).map iE) eW 0 []->gA 2 s s6 zH (i+1) (eb fa.cells (fg lf d P i)) H0 1 [.v (.int .i64 (2*lf:Nat)),.v (.int .u64 ok)]->
          (∀t,eY zP=some t->eY zK≠some t)->(∀t,eY zP=some t->eY zH≠some t)->(∀t,eY zK=some t->eY zH≠some t)->s.le s6->K6 E s6:=by
         intro E s6 zK fF f22 f23 f21 f19 xP Nq Ie Nr Ns x1 x2 x3 Ig;refine ll _ _ ?_;clear ll K6;have SY:=fF;rw[hF] at SY;obtain⟨f63,f62,f61,f0,f1,f2,f3,f4,f10,f17,f20⟩:=SY;rcases Ns with⟨rfl,lu,F7⟩|⟨tk,ek,rfl,Jj,mg⟩
         ·rw[SW] at f19;refine jU (Ai @f2 (Ai @f22 (Ai @f19 @f23))) fun K hK=>?_;refine b6 (c2 _) ?_;rintro r s8 ⟨rfl,rfl⟩;refine jM ?_;refine b6 (c3 _) ?_;rintro r s9 ⟨rfl,rfl⟩;refine jN (Ai @f19 (Ai @f23 @CQ)) ?_;intro tk ir;have D3:=eC Ig ir;have fP:=Ie.fresh rfl ir;have fK:=Nr.fresh rfl ir;refine hK _ _ (V3 _ _ zP zK (.sl 2 2 [.v (.int .i64 (2*lf:Nat)),.v (.int .u64 ok),.v (.int .i64 (P.getD i 0:Nat)),.v (.int .u64 ky)] (.own tk 0)) (by rw[hF];exact⟨f63,f62,f61,f0,f1,f2,f3,f4,f10,f17,f20⟩) f21 rfl xP Nq (Ie.eT fP) (Nr.eT fK) ?_ x1 ?_ ?_ (AS.eE Ig D3 0))
          ·rw[LY,kQ,F7,show i=0 by omega];exact gA.new D3 (by simp[AS.eT])
          ·intro t h1 h2;simp only[eY,Option.some.injEq] at h2;subst h2;exact fP h1
          ·intro t h1 h2;simp only[eY,Option.some.injEq] at h2;subst h2;exact fK h1
         ·refine jU (Ai @f2 (Ai @f22 (Ai @f19 @f23))) fun K hK=>?_;refine b6 (c2 _) ?_;rintro r s8 ⟨rfl,rfl⟩;refine jM ?_;refine b6 (c3 _) ?_;rintro r s9 ⟨rfl,rfl⟩;refine jN (Ai @f19 (Ai @f23 (Ai @CQ @Jj))) ?_;have fP:eY zP≠some tk:=fun q=>x2 _ q rfl;have fK:eY zK≠some tk:=fun q=>x3 _ q rfl;refine⟨by omega,by omega,hK _ _ (V3 _ _ zP zK (.sl 2 (i+1+1) (eb fa.cells (fg lf d P i)++[.v (.int .i64 (P.getD i 0:Nat)),.v (.int .u64 ky)]) (.own tk (ek+1))) (by rw[hF];exact⟨f63,f62,f61,f0,f1,f2,f3,f4,f10,f17,f20⟩) f21 rfl xP Nq (Ie.eT fP) (Nr.eT fK) ?_ x1 ?_ ?_ (AS.eE Ig mg (ek+1)))⟩
          ·rw[LY,kQ];exact gA.new mg (by simp[AS.eT])
          ·intro t h1 h2;simp only[eY,Option.some.injEq] at h2;subst h2;exact fP h1
          ·intro t h1 h2;simp only[eY,Option.some.injEq] at h2;subst h2;exact fK h1
        have SY:=fF;rw[hF] at SY;obtain⟨f63,f62,f61,f0,f1,f2,f3,f4,f10,f17,f20⟩:=SY;clear V3;rcases Nr with⟨rfl,lu,F7⟩|⟨tk,ek,rfl,Jj,mg⟩
        ·refine wE fun K hK=>?_;simp only[↓DN,Qa,Qb,Qc,Qd,Qe,Qf,Qg,Qh,reduceCtorEq,↓reduceIte,Na,Nb,Nc,Nk,Nf,Ng,Nh,Za,Zb,Zc,TT,f21,f24,eW,List.replicate_succ];intro tk ir;have D3:=eC Ig ir;have fP:=Ie.fresh rfl ir;have fH:=Ns.fresh SX ir;refine hK _ _ (hJ6 _ _ (.sl 1 1 [.v (.int .u64 sk)] (.own tk 0)) (by rw[hF];exact⟨f63,f62,f61,f0,f1,f2,f3,f4,f10,f17,f20⟩) f22 f23 rfl f19 xP Nq (Ie.eT fP) ?_ (Ns.eT fH) ?_ x2 ?_ (AS.eE Ig D3 0))
         ·rw[oq,KE,F7,show i=0 by omega];exact gA.new D3 (by simp[AS.eT])
         ·intro t h1 h2;simp only[eY,Option.some.injEq] at h2;subst h2;exact fP h1
         ·intro t h1 h2;simp only[eY,Option.some.injEq] at h1;subst h1;exact fH h2
        ·refine wE fun K hK=>?_;simp only[↓DN,Qa,Qb,Qc,Qd,Qe,Qf,Qg,Qh,reduceCtorEq,↓reduceIte,Na,Nb,Nc,Nk,Nf,Ng,Nh,Za,Zb,Zc,TT,f21,f24,Jj,List.replicate_succ];have fP:eY zP≠some tk:=fun q=>x1 _ q rfl;have fH:eY zH≠some tk:=x3 _ rfl;refine⟨by omega,by omega,hK _ _ (hJ6 _ _ (.sl 1 (i+1) ((eI d i).map iE++[.v (.int .u64 sk)]) (.own tk (ek+1))) (by rw[hF];exact⟨f63,f62,f61,f0,f1,f2,f3,f4,f10,f17,f20⟩) f22 f23 rfl f19 xP Nq (Ie.eT fP) ?_ (Ns.eT fH) ?_ x2 ?_ (AS.eE Ig mg (ek+1)))⟩
         ·rw[oq,KE];exact gA.new mg (by simp[AS.eT])
         ·intro t h1 h2;simp only[eY,Option.some.injEq] at h2;subst h2;exact fP h1
         ·intro t h1 h2;simp only[eY,Option.some.injEq] at h1;subst h1;exact fH h2
       clear V3;have xcm:s.dD Ji=none:=s17;rcases bP with⟨rfl,lu,F7⟩|⟨tk,ek,rfl,Jj,mg⟩
       ·refine wE fun K hK=>?_;simp only[↓DN,Qa,Qb,Qc,Qd,Qe,Qf,Qg,Qh,reduceCtorEq,↓reduceIte,Na,Nb,Nc,Nk,Nf,Ng,Nh,Za,Zb,Zc,TT,g17,V2,eW,CQ];intro tk ir;have D3:=eC hle ir;have fK:=bK.fresh rfl ir;have fH:=bH.fresh SX ir;refine hK _ _ (hJ5 _ _ (.sl 2 1 [.v (.int .u64 sk),.sl 2 sl.length SL .any] (.own tk 0)) (by rw[hF];exact⟨g63,Su,Zs,g0,g1,g2,g3,g4,g10,g17,g20⟩) rfl rfl rfl g21 g19 ?_ (AS.bG _ _ _) ?_ (bK.oB fK) (bH.oB fH) ?_ ?_ dKH (AS.dW (AS.eE hle D3 0) xcm _))
        ·rw[AS.cO _ (Ne.symm gP)];exact D5
        ·rw[lA,kQ,X6,F7,show i=0 by omega];exact gA.new D3 (by simp[AS.eT,AS.set])
        ·intro t h1 h2;simp only[eY,Option.some.injEq] at h1;subst h1;exact fK h2
        ·intro t h1 h2;simp only[eY,Option.some.injEq] at h1;subst h1;exact fH h2
       ·refine jU (Ai @g17 (Ai @V2 (Ai @Jj @CQ))) fun K hK=>?_;have fK:eY zK≠some tk:=dPK _ rfl;have fH:eY zH≠some tk:=dPH _ rfl;refine⟨by omega,by omega,hK _ _ (hJ5 _ _ (.sl 2 (i+1) (eb ft.cells (eG t lf d ctx fresh i)++[.v (.int .u64 sk),.sl 2 sl.length SL .any]) (.own tk (ek+1))) (by rw[hF];exact⟨g63,Su,Zs,g0,g1,g2,g3,g4,g10,g17,g20⟩) rfl rfl rfl g21 g19 ?_ (AS.bG _ _ _) ?_ (bK.oB fK) (bH.oB fH) ?_ ?_ dKH (AS.dW (AS.eE hle mg (ek+1)) xcm _))⟩
        ·rw[AS.cO _ (Ne.symm gP)];exact D5
        ·rw[lA,kQ,X6];exact gA.new mg (by simp[AS.eT,AS.set])
        ·intro t h1 h2;simp only[eY,Option.some.injEq] at h1;subst h1;exact fK h2
        ·intro t h1 h2;simp only[eY,Option.some.injEq] at h1;subst h1;exact fH h2
     ·have fB:¬((i:Nat):Int)<((P.length:Nat):Int):=(by omega);obtain rfl:i=P.length:=(by omega);have hG:pD t lf d fresh P.length=true:=by
       unfold pD;rw[List.all_eq_true];intro j hj;exact Jg j (List.mem_range.1 hj)
      rw[if_neg (by rw[hG];decide)] at hR;have sD:(eI d P.length).length=P.length:=(by simp[eI]);have UU:(eG t lf d ctx fresh P.length).length=P.length:=(by simp[eG]);have hHl:(fg lf d P P.length).length=P.length+1:=(by simp[fg]);have hwt:=fun s=>dS.mB (.cons (.refl _) (.cons (.refl _) (.cons (.refl _) (.cons (bK.dV AV.eh) (.cons (.refl _) .nil))))) (by
       have:=Gy op (eI d P.length) sD s;unfold zk eA ea at this;rw[hXe,sD] at this;exact this)
      have hMU:rm t lf d fresh=iK t lf op (eI d P.length) fresh:=(by unfold rm;rw[ZE,<-lJ]);have SZ:R1=kY t lf d ctx fresh∧R2=0:=⟨congrArg (·.1) hR,congrArg (·.2) hR⟩;have hMV:kY t lf d ctx fresh=⟨⟨op,(nd (iK t lf op (eI d P.length) fresh) (2*lf)).parent,eG t lf d ctx fresh P.length⟩,iK t lf op (eI d P.length) fresh,fg lf d P P.length,fw d (P.length+1)⟩:=by
       unfold kY;rw[hMU,ZE,<-lJ]
      rw[hMV] at SZ;have c2:=fun s=>mj P.length (by omega) s;obtain⟨u,hu⟩:∃u,u=iK t lf op (eI d P.length) fresh:=⟨_,rfl⟩;rw[<-hu] at hwt SZ;have hul:u.length=t.length:=(by rw[hu];unfold iK;simp only[List.length_set];exact lW ..);have hut:2*lf<u.length:=(by omega);have gO:=gL hut;have rK:(0:Int)<=((2*lf:Nat):Int):=(by omega);have pB:((2*lf:Nat):Int)<((u.length:Nat):Int):=(by omega);have mQ:=fun s=>mn (Γ:=Γ) (nd u (2*lf)).parent s (by
       have:=P9 t lf op (eI d P.length) fresh (show 2*lf<t.length by omega);rw[<-hu] at this;omega)
      generalize hZ:eb cH.cells u=Z at *
      generalize nd u (2*lf)=N at *
      obtain⟨n1,n2,n3,n4,n5⟩:=N;unfold cH.cells at gO;unfold dm at mQ gO;simp only at mQ SZ;refine jB (Ai @Su (Ai @g63 (decide_eq_false fB))) ?_;refine wK fun K2 eH=>?_;refine jF ?_;refine ep ?_;simp only[dJ,dn,if_true];refine iW _ _ ?_;clear iW eH K2 K1;refine kC ?_;intro K hK;refine jP (Ai @g0 (Ai @g1 (Ai @g17 (Ai @V2 (Ai @g21 @g4))))) ?_;refine b6 (hwt _) ?_;rintro r X5 ⟨rfl,rfl⟩;refine jR hK ?_;clear hK K;refine kC ?_;intro K hK;refine jP (Ai @g1 (Ai @g17 (Ai @V2 (Ai (fp lf (by omega)) (Ai @rK (Ai @pB @gO)))))) ?_;refine b6 (mQ _) ?_;rintro r s13 ⟨rfl,rfl⟩;refine jV (Ai @g17 @V2) hK ?_;clear hK K;refine vS (kx.oH (d:=17) (o:=Ji) (cs:=[.v (.int .u64 op),.sl 1 n4.length (n4.map cU) .any,zP]) g17 (AS.bG _ _ _)) (fY.g ?_);have FE:((s13.set Ji [.v (.int .u64 op),.sl 1 n4.length (n4.map cU) .any,zP]).drop Ji).dD nP=some [.v (.int .u64 0),.v (.slice none 0 0),.v (.slice none 0 0)]:=by
       rw[<-D5];simp[AS.drop,AS.set,dY,Ne.symm gP]
      have KB:s.le ((s13.set Ji [.v (.int .u64 op),.sl 1 n4.length (n4.map cU) .any,zP]).drop Ji):=AS.th (AS.dW hle s17 _) s17;generalize (s13.set Ji [.v (.int .u64 op),.sl 1 n4.length (n4.map cU) .any,zP]).drop Ji=Q4 at *
      have wH:=bH.dV (by rw[SW];exact AV.fc);have wP:=bP.dV AV.eh;have hPn:eW=AV.v (.slice none 0 0):=rfl;have fu:∀(E:Env),E 10=.ptr nP 0->E 11=.sl 5 u.length Z .any->E 12=zH->E 13=.sl 1 (fw d (P.length+1)).length ((fw d (P.length+1)).map cU) .any->E 14=.v (.int .i64 0)->
        fX prog (#[ResultVar.cell 10 32,ResultVar.tmp 11,ResultVar.tmp 12,ResultVar.tmp 13,ResultVar.tmp 14]:Array ResultVar).toList (fun r s'=>r=D4 R1 R2∧s'=s) .ret E (Q4.set nP [.v (.int .u64 op),.sl 1 n4.length (n4.map cU) .any,zP]):=by
       intro E f10 f11 f12 f13 f14;refine ur (o:=nP) (off:=0) f10 (AS.bG _ _ _) (by rw[T.c32];decide) (by simp only[↓DN,Qa,Qb,Qc,Qd,Qe,Qf,Qg,Qh,reduceCtorEq,↓reduceIte,Na,Nb,Nc,Nk,Nf,Ng,Nh,Za,Zb,Zc,TT];rfl) ?_;rw[f11,f12,f13,f14,SZ.1,SZ.2];unfold D4 eA lT dm ia.cells;simp only;rw[UU,hHl,hZ];exact⟨_,s,AV.Gx (.cons (AV.qS (.cons (AV.dV.refl _) (.cons (AV.dV.refl _) (.cons wP .nil)))) (.cons (AV.dV.refl _) (.cons wH (.cons (AV.dV.refl _) (.cons (AV.dV.refl _) .nil))))),AS.dW KB OC _,rfl,rfl⟩
      rcases bP with⟨rfl,lu,-⟩|⟨tk,ek,rfl,-,-⟩
      ·rw[lu] at c2 fu;refine vp T.mixed [8] [(1007,.sl 1 (fw d (0+1)).length ((fw d (0+1)).map cU) .any)] [0,1,2,3,4,5,6,7,8,9,10,11,12] (by kernel_rfl) ?_;intro K hK;simp only[↓Cy,↓yN,↓tC,↓tE,Nat.reduceAdd,↓tD,nC,lO,uG,eZ,DX,Nat.reduceBEq,List.toList_toArray,List.map_cons,List.map_nil,ef,↓DN,Qa,Qb,Qc,Qd,Qe,Qf,Qg,Qh,reduceCtorEq,↓reduceIte,Na,Nb,Nc,Nk,Nf,Ng,Nh,Za,Zb,Zc,TT,g2,g19,g10,FE,hPn];refine Oq c2 ?_;refine hK _ _ ?_;clear hK K;refine eF ?_;try simp only[dJ,dn]
       exact fu _ g10 rfl rfl rfl rfl
      ·refine vp T.mixed [8] [(1007,.sl 1 (fw d (P.length+1)).length ((fw d (P.length+1)).map cU) .any)] [0,1,2,3,4,5,6,7,8,9,10,11,12] (by kernel_rfl) ?_;intro K hK;simp only[↓Cy,↓yN,↓tC,↓tE,Nat.reduceAdd,↓tD,nC,lO,uG,eZ,DX,Nat.reduceBEq,List.toList_toArray,List.map_cons,List.map_nil,ef,↓DN,Qa,Qb,Qc,Qd,Qe,Qf,Qg,Qh,reduceCtorEq,↓reduceIte,Na,Nb,Nc,Nk,Nf,Ng,Nh,Za,Zb,Zc,TT,g2,g19,g10,FE];refine Oq c2 ?_;refine hK _ _ ?_;clear hK K;refine eF ?_;try simp only[dJ,dn]
       exact fu _ g10 rfl rfl rfl rfl
  ·have e2:((d.length:Int) != 32)=true:=by
    rw[bne_iff_ne];omega
   rw[if_pos ye] at hR;refine jB @e2 ?_;refine jE ?_;refine jB @OD ?_;refine eF ?_;try simp only[dJ,dn]
   exact mq nP 2 (congrArg (·.1) hR) (congrArg (·.2) hR) _ _ (rk hle OC _) (AS.bG _ _ _) rfl rfl rfl rfl rfl
 ·have e0:(qn t leaf != 0)=true:=(by simp[he]);rw[if_pos he] at hR;refine jB @e0 ?_;refine jE ?_;refine jB @OD ?_;refine eF ?_;try simp only[dJ,dn]
  exact mq nP _ (congrArg (·.1) hR) (congrArg (·.2) hR) _ _ (rk hle OC _) (AS.bG _ _ _) rfl rfl rfl rfl rfl
theorem zl{t:List cH}{leaf:Int}{d ctx:List UInt8}{fresh:List Int}(h:(jy t leaf d ctx fresh).2=0):
    qn t leaf=0∧d.length=32∧lV (mM d)=true∧pD t leaf.toNat d fresh (dR leaf.toNat (ee t)).length=true∧(jy t leaf d ctx fresh).1=kY t leaf.toNat d ctx fresh:=by
  unfold jy at h⊢;by_cases h1:qn t leaf=0
  · rw[if_neg (fun k=>k h1)] at h⊢;by_cases h2:d.length=32
    · rw[if_neg (fun k=>k h2)] at h⊢;cases h3:lV (mM d) with
      |false=>rw[h3,if_pos rfl] at h;cases h
      |true=>
        rw[h3,if_neg dM] at h;rw[if_neg dM];cases h4:pD t leaf.toNat d fresh (dR leaf.toNat (ee t)).length with
        |false=>rw[h4,if_pos rfl] at h;cases h
        |true=>exact⟨h1,h2,rfl,rfl,by rw[if_neg dM]⟩
    · rw[if_pos h2] at h;cases h
  · rw[if_pos h1] at h;exact absurd h h1
theorem D6{t:List cH}{lf:Nat}{d:List UInt8}{fresh:List Int}{m i:Nat}(h:pD t lf d fresh m=true)(hi:i<m):stepG d i (kt t lf fresh i)=true:=by
  unfold pD at h;rw[av] at h;exact h i (bt.2 hi)
theorem AO{d:List UInt8}{i:Nat}{RT:List Int}(h:stepG d i RT=true):lV (od (fw d (i+1)))=true:=by
  unfold stepG at h;rw[ar] at h;exact h.1
theorem Gz(t:List cH)(d ctx:List UInt8)(i:Nat)(RT:List Int):(kB t d ctx i RT).key=od (fw d (i+1)):=by unfold kB;exact Eq.refl _
theorem AP(t:List cH)(d ctx:List UInt8)(i:Nat)(RT:List Int):(kB t d ctx i RT).iJ.length=RT.length:=by unfold kB;exact aQ _
theorem zm(t:List cH)(lf:Nat)(d ctx:List UInt8)(fresh:List Int){m i:Nat}(h:i<m):(eG t lf d ctx fresh m).getD i ⟨0,[]⟩=kB t d ctx i (kt t lf fresh i):=by
  simp[eG,a7,h]
theorem KF(t:List cH)(lf:Nat)(d ctx:List UInt8)(fresh:List Int)(m:Nat):(eG t lf d ctx fresh m).map (·.key)=eI d m:=by
  unfold eG eI;rw[List.map_map];refine List.map_congr_left fun i _=>?_;rw[Function.comp_apply,Gz]
theorem D7{t:List cH}{lf:Nat}{d ctx:List UInt8}{fresh:List Int}(h:(jy t lf d ctx fresh).2=0):sA t lf (kY t lf d ctx fresh).p fresh=(rm t lf d fresh,0):=by
  obtain⟨h1,-,h3,h4,-⟩:=zl h;rw[aw] at h4;have hl:(eG t lf d ctx fresh (dR lf (ee t)).length).length=(dR lf (ee t)).length:=(by simp[eG]);have hs:AQ t lf fresh (eG t lf d ctx fresh (dR lf (ee t)).length)=true:=by
    unfold AQ;rw[av,hl];intro i hi;have et:=bt.1 hi;rw[zm t lf d ctx fresh et];unfold GA;rw[ar];rw[Gz,AP];refine⟨AO (D6 h4 et),?_⟩;rw[decide_eq_true_iff];unfold kt;exact Eq.refl _
  unfold sA kY;simp only[aw];rw[if_neg (fun k=>k h1),if_neg (by rw[hl,h3];simp),if_neg (by rw[hs];simp),KF];have hU:iK t lf (mM d) (eI d (dR lf (ee t)).length) fresh=rm t lf d fresh:=(by unfold rm;rfl);rw[hU,if_pos rfl]
theorem zn(d:List UInt8)(a:Nat):∀i,fw (fw d a) i=fw d (a+i)
  |0=>rfl
  |i+1=>by rw[fw,zn d a i];rfl
theorem KG{x:Int}:∀{l:List Int},x∈l->∃i,∃hi:i<l.length,l[i]=x∧∀j(hj:j<l.length),j<i->l[j]≠x
  |[],h=>by cases h
  |y::l,h=>by
    by_cases e:y=x
    · exact⟨0,sM,e,fun j _ h=>absurd h (Nat.not_lt_zero _)⟩
    · obtain⟨i,hi,h1,h2⟩:=KG ((List.mem_cons.1 h).resolve_left (fun k=>e k.symm));refine⟨i+1,by simpa using hi,by simpa using h1,?_⟩;intro j hj Hk;cases j with
      |zero=>simpa using e
      |succ j=>simpa using h2 j (by simpa using hj) oM
theorem Nt(d:List UInt8)(lf:Nat)(P:List Nat)(a:Nat)(ha:a<=P.length):jl (fw d (a+1)) (P.drop a)=(fg lf d P P.length).drop (1+a):=by
  apply List.ext_getElem
  · simp[jl,fg];omega
  · intro i h1 h2;rw[rf,bW] at h1;have e1:(P.drop a).getD i 0=P.getD (a+i) 0:=(by simp[a7,List.getElem?_drop]);have e2:a+1+i=a+i+1:=oM;have e3:1+a+i=(a+i)+1:=oM;simp only[jl,List.getElem_map,List.getElem_range,List.getElem_drop,fg,e3,List.getElem_cons_succ,vE,e1,zn,e2]
theorem S1(d:List UInt8)(a n:Nat)(kO:Nat->Nat)(h:∀i,i<n->kO i=od (fw d (a+i+1))):xM (fw d (a+1)) n kO=true:=
  BJ fun j hj=>by rw[h j hj,zn,show a+1+j=a+j+1 by omega]
theorem FF(jg:Γ 0=jZ Sha.H0)(mC:Γ 1=Sha.K.map wV)(hG:Γ 3=lQ.map uU)(t:List cH)(ht:iD t)(LV:t.length<=2^30)(hw:∀n∈t,sR n)(lf:Nat)
    (d ctx:List UInt8) (DY:ctx.length<=2^30) (fresh:List Int) (hf:fresh.length<=2^40) (JS:(jy t lf d ctx fresh).2=0) (ow:Nat) (hmo:gE t ow) (gP:ow≠lf) (hnf:(ow:Int)∉fresh)
    (a:Nat) (ha:XW lf (ee t) ow=(a:Int)) (nG:a<(dR lf (ee t)).length) (x:Nat) (hx:(x:Int)∈kt t lf fresh a) (k:Nat) (hk:(nd t x).key=3^k%PP) (LO:1<=k∧k<=2305843009213693949) (s:AS):
    aI prog Γ 27 [eA t,.v (.int .i64 lf),.agg (kY t lf d ctx fresh).p.cells,.v (.int .i64 ow),lT [⟨(x:Nat),k⟩],dm ctx .any,ea fresh .any] s (.ka [lT (⟨(x:Nat),k⟩::(fg lf d (dR lf (ee t)) (dR lf (ee t)).length).drop (1+a)),dm (fw d ((dR lf (ee t)).length+1)) .any,.v (.int .i64 0)]):=by
  obtain⟨h1,h2,h3,h4,-⟩:=zl JS
  rw[aw] at h4
  obtain⟨hr,hm⟩:=oR.1 h1
  obtain⟨fN,nD⟩:Fit (ee t)∧t.length=2*ee t-1:=by
    rcases fA (t:=t) with h|h
    · exact absurd h hr.1
    · exact h
  have uK:=fN.le
  have kS:lf<ee t:=by
    have:=hm.2.1
    omega
  have Ph:=CD fN kS nD nG
  obtain⟨m,hxm,hmt,xki,tM⟩:=H6 hr fresh Ph hx
  obtain rfl:x=m:=oM
  obtain⟨i0,lu,hie,Jk⟩:=KG hx
  have hl:(kY t lf d ctx fresh).p.steps.length=(dR lf (ee t)).length:=by simp[kY,eG]
  have rH:a<(kY t lf d ctx fresh).p.steps.length:=oM
  have gN:(kY t lf d ctx fresh).p.steps[a]=kB t d ctx a (kt t lf fresh a):=by simp[kY,eG]
  have wY:(kY t lf d ctx fresh).p.steps[a].iJ.length=(kt t lf fresh a).length:=by rw[gN];exact AP ..
  have Gw:((kY t lf d ctx fresh).p.steps[a].iJ[i0]'oM)=rj t d ctx a x:=by
    have :((kB t d ctx a (kt t lf fresh a)).iJ[i0]'(by simpa[kB] using lu))=rj t d ctx a x:=by
      simp only[kB,List.getElem_map,hie,aw]
    simpa only[gN] using this
  have Jh:uq d a (x:Int)=true:=by
    have:=D6 h4 nG
    unfold stepG at this
    rw[ar,av] at this
    exact this.2 _ hx
  have I9:zb (jv (ji d a x)):=by
    unfold uq at Jh
    rw[aw] at Jh
    exact rh.1 Jh
  have P7:(kt t lf fresh a).length<=2^40:=by
    unfold kt ff
    split
    · have h1:=mZ hr fresh (lv (fE (nodeAt lf (ee t) a):Int).toNat) (fE (nodeAt lf (ee t) a):Int).toNat
      have h2:=rW (fE (nodeAt lf (ee t) a):Int).toNat
      have h3:=Nat.pow_le_pow_right (show 0<2 by decide) h2
      omega
    · exact ax _
  have mQ:=Ib (Γ:=Γ) jg mC hG t ht LV hw hr lf hm (kY t lf d ctx fresh).p hl ow hmo gP ⟨(x:Nat),k⟩ ctx DY fresh hf hnf (by rw[D7 JS]) a ha rH i0 lu hie Jk oM oM
    (by rw[Gw];exact⟨I9,LO.1,LO.2⟩) (by rw[Gw];unfold rj jx;rw[tL,sQ];decide)
    (by
      intro h
      obtain⟨u,hu,he⟩:=List.mem_map.1 h
      have he:(u:Int)=(x:Int):=he
      obtain rfl:u=x:=oM
      exact SH fN kS nG oM tM hu)
    (fw d (a+1)) (by rw[Gw];unfold rj;simp only;rw[hk];exact Zw ..) (by rw[Gw];unfold rj;simp only;rw[hk];exact Zx ..) (sQ d a)
    (S1 d a _ _ fun i hi=>by
      rw[bW] at hi
      have:=zm t lf d ctx fresh (m:=(dR lf (ee t)).length) (i:=a+i) oM
      unfold kY
      simp only
      rw[this]
      rfl) s
  rw[Nt d lf _ a oM,zn,show a+1+((dR lf (ee t)).length-a)=(dR lf (ee t)).length+1 by omega] at mQ
  exact mQ
end Go.Proofs.YtbiefppedlodiaaGreatDoor
namespace Go.AM
open Go Go.RowKit
variable{P:Program}{Γ:Nat->List AV}
theorem dS.settled{f:FuncId}{a b:AV}{post:List AV}{x x':AV}{s s':AS}{Q:AV->AS->Prop}(h:gj Γ s x s' x')(k:dS P Γ f (a::b::x'::post) s' Q):dS P Γ f (a::b::x::post) s Q:=by
  intro G w vs hs hv;have hv:=hv;simp only[dP] at hv;obtain⟨u1,us1,rfl,h1,u2,us2,rfl,h2,u,us,rfl,h3,h4⟩:=hv;obtain⟨G',g1,g2,g3⟩:=h G w u hs h3;refine(k G' w _ g2 (by simp only[dP];exact⟨u1,_,rfl,dQ.mono g1 _ _ h1,u2,_,rfl,dQ.mono g1 _ _ h2,u,_,rfl,g3,dP.mono g1 _ _ h4⟩)).mono ?_;rintro e w' ⟨ya,r,v,mb,rfl,q1,q2,q3,q4⟩;exact⟨ya,r,v,mb,rfl,g1.trans q1,q2,q3,q4⟩
end Go.AM
namespace Go.Proofs.YtbiefppedlodiaaGreatDoor
open Go Go.AM Go.Proofs Tryz
variable{Γ:Nat->List AV}
def BN:List UInt8:=ai 32 0
theorem Nu:gp [98]=1143308707886319510:=by decide+kernel
theorem S2:vD BN=1668877266923750098:=by decide+kernel
theorem S3:rJ (fw BN 1)=954470548532752739:=by decide+kernel
theorem Qi:gp (ji BN 0 2)=1379976697818645679:=by decide+kernel
theorem V4:3^1143308707886319510%PP=1403620569307361687:=(Hpke.Kk 64 3 1143308707886319510 dM).symm.trans (by decide+kernel)
theorem Qj:3^1668877266923750098%PP=1108681655847164022:=(Hpke.Kk 64 3 1668877266923750098 dM).symm.trans (by decide+kernel)
theorem Qk:3^954470548532752739%PP=316409525784712861:=(Hpke.Kk 64 3 954470548532752739 dM).symm.trans (by decide+kernel)
theorem Nv:3^1379976697818645679%PP=2058778986153334545:=(Hpke.Kk 64 3 1379976697818645679 dM).symm.trans (by decide+kernel)
theorem KH:3^gp [98]%PP=1403620569307361687:=(congrArg (fun e=>3^e%PP) Nu).trans V4
theorem Ql(d:List UInt8):mM d=3^vD d%PP:=by unfold mM;exact Eq.refl _
theorem OE(d:List UInt8):od d=3^rJ d%PP:=by unfold od;exact Eq.refl _
theorem KI:mM BN=1108681655847164022:=(Ql BN).trans ((congrArg (fun e=>3^e%PP) S2).trans Qj)
theorem Qm:od (fw BN 1)=316409525784712861:=(OE _).trans ((congrArg (fun e=>3^e%PP) S3).trans Qk)
theorem Qn:jv (ji BN 0 2)=2058778986153334545:=(SA _).trans ((congrArg (fun e=>3^e%PP) Qi).trans Nv)
def tA:List cH:=[⟨1,[97],9,[],[]⟩,cH.nr,⟨1,[98],1403620569307361687,[],[]⟩]
theorem sS:eJ tA∧gE tA 0∧gE tA 1∧ee tA=2∧iD tA∧XW 0 2 1=0∧dR 0 2=[1]∧fE (nodeAt 0 2 0)=2∧lU tA [] (lv 2) 2=[2]:=by decide+kernel
theorem Nw:kt tA 0 [] 0=[2]:=by
 unfold kt ff;rw[sS.2.2.2.1,sS.2.2.2.2.2.2.2.1,if_pos ⟨dM,dM,sS.1⟩];exact sS.2.2.2.2.2.2.2.2
theorem AR:(dR 0 (ee tA)).length=1:=by rw[sS.2.2.2.1,sS.2.2.2.2.2.2.1];rfl
theorem KJ:∀n∈tA,sR n:=by unfold tA sR;decide
theorem Ih:(jy tA (0:Nat) BN [] []).2=0:=by
 have hm:qn tA (0:Nat)=0:=oR.2 ⟨sS.1,sS.2.1⟩;have hG:pD tA 0 BN [] 1=true:=by
  unfold pD;rw[av];intro i hi;obtain rfl:i=0:=(by have:=bt.1 hi;omega);rw[Nw];unfold stepG;rw[show(0:Nat)+1=1 from rfl,Qm,ar,av];refine⟨dM,fun n hn=>?_⟩;obtain rfl:n=2:=(by simpa using hn);unfold uq;rw[show(2:Int).toNat=2 from rfl,Qn];decide
 unfold jy;rw[if_neg (fun k=>k hm),if_neg dM,KI,if_neg dM,aw,AR,if_neg (by rw[hG];decide)]
theorem ZF(a c:Int)(b d:Nat):Jr prog 67 .eql [.v (.int .i64 a),.v (.int .u64 b)] [.v (.int .i64 c),.v (.int .u64 d)]=some (.v (.bool (decide (a=c∧b=d)))):=by
 have h:Jr prog 67 .eql [.v (.int .i64 a),.v (.int .u64 b)] [.v (.int .i64 c),.v (.int .u64 d)]=some (.v (.bool ((a==c)&&(((b:Nat):Int)==((d:Nat):Int)&&true)))):=by
  kernel_rfl
 rw[h];refine congrArg (fun b=>some (AV.v (Value.bool b))) ?_;rw[bB];simp only[cI,ar,beq_iff_eq,decide_eq_true_iff];omega
theorem FG(jg:Γ 0=jZ Sha.H0)(mC:Γ 1=Sha.K.map wV)(hG:Γ 3=lQ.map uU)(s:AS):aI prog Γ 8 [] s (.v (.bool true)):=by
 refine xH func8 ntmps8 results8 ?_;have c1:=fun s=>nZ (Γ:=Γ) [98] dM s;have c2:=fun s=>lD (Γ:=Γ) (gp [98]) (by rw[Nu];decide) s;have c3:=fun s=>zh (Γ:=Γ) jg mC hG tA sS.2.2.2.2.1 dM KJ (0:Nat) BN [] dM dM [] dM s;have c4:=fun s=>FF (Γ:=Γ) jg mC hG tA sS.2.2.2.2.1 dM KJ 0 BN [] dM [] dM Ih 1 sS.2.2.1 dM sM 0 (by rw[sS.2.2.2.1];exact sS.2.2.2.2.2.1) (by rw[AR];decide) 2 (by rw[Nw];simp)
  (gp [98]) (by rw[KH];rfl) (by rw[Nu];decide) s
 rw[Ih,(zl Ih).2.2.2.2] at c3;rw[KH] at c2;rw[AR] at c4;rw[aw] at c3;have hH1:fg 0 BN (dR 0 (ee tA)) 1=[⟨(2*0:Nat),vD BN⟩,vE BN (dR 0 (ee tA)) 0]:=(by unfold fg;simp only[di,List.range_zero,aF,aB,bZ]);obtain⟨V,hV⟩:∃V,V=kY tA 0 BN [] []:=⟨_,rfl⟩;have v1:V.p.steps=[kB tA BN [] 0 [2]]:=by
  rw[hV];unfold kY eG;simp only;rw[AR];simp only[di,List.range_zero,aF,aB,bZ];rw[Nw]
 have v2:V.t.length=3:=by
  rw[hV];unfold kY rm iK;simp only[bY];rw[lW];decide
 have v3:V.held=[⟨(2*0:Nat),vD BN⟩,vE BN (dR 0 (ee tA)) 0]:=by
  rw[hV];unfold kY;simp only;rw[AR,hH1]
 have v4:V.Nn=fw BN (1+1):=by
  rw[hV];unfold kY;simp only;rw[AR]
 rw[<-hV] at c3 c4;rw[hH1] at c4;simp only[List.drop_succ_cons,List.drop_zero] at c4;have v5:(kB tA BN [] 0 [2]).iJ.length=1:=AP ..;clear hV hH1;generalize kB tA BN [] 0 [2]=S at *
 generalize vE BN (dR 0 (ee tA)) 0=h1 at *
 generalize vD BN=ok at *
 generalize fw BN (1+1)=cm at *
 generalize gp [98]=kb at *
 obtain⟨⟨pk,pp,ps⟩,vt,vh,vc⟩:=V;obtain⟨sk,sl⟩:=S;obtain⟨hn,hk⟩:=h1;simp only at v1 v2 v3 v4 v5;subst v1 v3 v4;have Cc:eA tA=.sl 5 3 [.v (.int .i64 1),.sl 1 1 [.v (.int .u8 97)] .any,.v (.int .u64 9),.sl 1 0 [] .any,.sl 1 0 [] .any,.v (.int .i64 0),.sl 1 0 [] .any,.v (.int .u64 0),.sl 1 0 [] .any,.sl 1 0 [] .any,.v (.int .i64 1),.sl 1 1 [.v (.int .u8 98)] .any,.v (.int .u64 (1403620569307361687:Nat)),.sl 1 0 [] .any,.sl 1 0 [] .any] .any:=rfl;have htw:(AV.sl 5 3 [.v (.int .i64 1),.sl 1 1 [.v (.int .u8 97)] .new,.v (.int .u64 9),.v (.slice none 0 0),.v (.slice none 0 0),.v (.int .i64 0),.v (.slice none 0 0),.v (.int .u64 0),.v (.slice none 0 0),.v (.slice none 0 0),.v (.int .i64 1),.sl 1 1 [.v (.int .u8 98)] .new,.v (.int .u64 (1403620569307361687:Nat)),.v (.slice none 0 0),.v (.slice none 0 0)] .new).dV (eA tA):=by
  rw[Cc];exact fun G v h=>AV.fc G v (AV.vk (.cons (AV.dV.refl _) (.cons AV.fc (.cons (AV.dV.refl _) (.cons AV.eh (.cons AV.eh (.cons (AV.dV.refl _) (.cons AV.eh (.cons (AV.dV.refl _) (.cons AV.eh (.cons AV.eh (.cons (AV.dV.refl _) (.cons AV.fc (.cons (AV.dV.refl _) (.cons AV.eh (.cons AV.eh .nil))))))))))))))) G v h)
 obtain⟨TN,hTN⟩:∃TN,TN=AV.sl 5 3 [.v (.int .i64 1),.sl 1 1 [.v (.int .u8 97)] .new,.v (.int .u64 9),.v (.slice none 0 0),.v (.slice none 0 0),.v (.int .i64 0),.v (.slice none 0 0),.v (.int .u64 0),.v (.slice none 0 0),.v (.slice none 0 0),.v (.int .i64 1),.sl 1 1 [.v (.int .u8 98)] .new,.v (.int .u64 (1403620569307361687:Nat)),.v (.slice none 0 0),.v (.slice none 0 0)] .new:=⟨_,rfl⟩;rw[<-hTN] at htw;have X7:∀(o:Nat)(s:AS),s.dD o=none->dS prog Γ 10 [TN,.v (.int .i64 0),.jd o 0 1 32 32,.v (.slice none 0 0),.v (.slice none 0 0)] (s.set o (ai 32 (.v (.int .u8 0)))) (fun r s'=>r=D4 ⟨⟨pk,pp,[⟨sk,sl⟩]⟩,vt,[⟨(2*0:Nat),ok⟩,⟨hn,hk⟩],vc⟩ 0∧s'=s):=fun o s ho=>by
  have hz:(BN.map cU)=ai 32 (.v (.int .u8 0)):=(by unfold BN;rw[List.map_replicate];rfl);refine dS.settled (gj.outer (cs:=ai 32 (.v (.int .u8 0))) (rest:=[]) (by rw[List.append_nil];exact AS.bG _ _ _) sM) ?_;rw[AS.drop_set ho];have:=dS.mB (.cons htw (.cons (AV.dV.refl _) (.cons (AV.dV.refl _) (.cons AV.eh (.cons AV.eh .nil))))) (c3 s);unfold dm at this;rw[hz] at this;exact this
 have c4':∀s,aI prog Γ 27 [TN,.v (.int .i64 0),.agg (ia.cells ⟨pk,pp,[⟨sk,sl⟩]⟩),.v (.int .i64 1),.sl 2 1 [.v (.int .i64 2),.v (.int .u64 kb)] .new,.v (.slice none 0 0),.v (.slice none 0 0)] s (.ka [lT [⟨(2:Nat),kb⟩,⟨hn,hk⟩],dm vc .any,.v (.int .i64 0)]):=fun s=>
  dS.mB (.cons htw (.cons (AV.dV.refl _) (.cons (AV.dV.refl _) (.cons (AV.dV.refl _) (.cons AV.fc (.cons AV.eh (.cons AV.eh .nil))))))) (c4 s)
 clear c3 c4 Cc htw;have ZG:∀a:AV,ai 1 a=[a]:=fun _=>rfl;have xcp:∀a b c d e:AV,rF 15 [a,b,c,d,e]=[a,b,c,d,e,a,b,c,d,e,a,b,c,d,e]:=(fun _ _ _ _ _=>by simp[rF,di]);have CQ:∀a b:AV,rF 2 [a,b]=[a,b]:=fun _ _=>rfl;unfold D4 ia.cells at X7;unfold ia.cells at c4';unfold eA at X7;simp only at X7 c4';rw[v2] at X7;simp only[lT,List.length_cons,List.length_nil,Nat.zero_add,Nat.reduceAdd] at X7 c4';have hX:eb ft.cells [⟨sk,sl⟩]=[.v (.int .u64 (sk:Nat)),.sl 2 1 (eb gg.cells sl) .any]:=(by rw[<-v5];rfl);have hY1:eb fa.cells [⟨(2*0:Nat),ok⟩,⟨hn,hk⟩]=[.v (.int .i64 0),.v (.int .u64 ok),.v (.int .i64 hn),.v (.int .u64 hk)]:=rfl;have ZH:eb fa.cells [⟨(2:Nat),kb⟩,⟨hn,hk⟩]=[.v (.int .i64 2),.v (.int .u64 kb),.v (.int .i64 hn),.v (.int .u64 hk)]:=rfl;rw[hX,hY1] at X7;rw[hX,ZH] at c4';generalize eb gg.cells sl=SL at *
 generalize eb cH.cells vt=X at *
 unfold dm at X7 c4';clear hX hY1 ZH v5 v2;refine jA ?_;refine jK (c1 _) ?_;rintro s1 rfl;refine jS (Ai @ZG @xcp) fun K hK=>?_;refine b6 (c2 _) ?_;rintro r s2 ⟨rfl,rfl⟩;refine jV (Ai @ZG @xcp) hK ?_;rw[<-hTN];refine ev 3 dM ?_;intro K hK;refine jM ?_;refine⟨dM,dM,fun o ho=>?_⟩;refine b6 (X7 o _ ho) ?_;rintro r s3 ⟨rfl,rfl⟩;refine jM ?_;intro o3 q3;refine hK _ _ o3 _ rfl q3 ?_;clear hK K q3;refine jS (Ai @ZG @CQ) fun K hK=>?_;refine b6 (c4' _) ?_;rintro r s4 ⟨rfl,rfl⟩;refine jR hK ?_;have wW:(((1:Nat):Int)==1)=true:=rfl;have US:((0:Int)==0)=true:=rfl;have e33:(((3:Nat):Int)==3)=true:=rfl;have e22:(((2:Nat):Int)==2)=true:=rfl;have h01:(0:Int)<((1:Nat):Int):=dM;have h02:(1:Int)<((2:Nat):Int):=dM;have hse:Jr prog 67 .eql [.v (.int .i64 hn),.v (.int .u64 hk)] [.v (.int .i64 hn),.v (.int .u64 hk)]=some (.v (.bool true)):=(by rw[ZF,dT ⟨rfl,rfl⟩]);have ES:((vc==vc)=true):=beq_self_eq_true vc;refine eB T.mixed [] kM ?_;intro K hK;refine jV (Ai @wW (Ai @US (Ai @e33 (Ai @e22 (Ai @h01 (Ai @h02 (Ai @hse (Ai @lF (Ai @lG @ES))))))))) hK ?_;exact jJ
structure uv where
 t:List cH
 leaf:Int
 own:Int
 draw:List UInt8
 ctx:List UInt8
 fresh:List Int
def uv.cells(c:uv):List AV:=[eA c.t,.v (.int .i64 c.leaf),.v (.int .i64 c.own),dm c.draw .any,dm c.ctx .any,ea c.fresh .any]
def uv.small(c:uv):Prop:=c.t.length<=31∧c.draw.length<=40∧c.ctx.length<=100∧c.fresh.length<=5∧∀n∈c.t,AU n
theorem uv.small.wide{c:uv}(h:c.small)(hk:∀n∈c.t,n.key<2^64):iD c.t∧c.t.length<=2^30∧(∀n∈c.t,sR n):=by
 refine⟨⟨by have:=h.1;omega,fun n hn=>⟨by have:=(h.2.2.2.2 n hn).2.2;omega,hk n hn⟩⟩,by have:=h.1;omega,fun n hn=>?_⟩;obtain⟨a,b,c⟩:=h.2.2.2.2 n hn;unfold sR;omega
theorem FH(c:uv)(s:AS):dS prog Γ 9 [.agg c.cells] s (fun r s'=>(∃v,r=.v (.bool v)∧(v=true->c.small))∧s'=s):=by
 refine xH func9 ntmps9 results9 ?_;obtain⟨t,leaf,own,draw,ctx,fresh⟩:=c;unfold uv.small;simp only[uv.cells];have gO:=fun(i:Nat)(hi:i<t.length)=>gL hi;unfold eA dm ea;generalize hX:eb cH.cells t=X at *
 refine ev 1 dM ?_;intro K hK;refine jM ?_;intro o ho;refine hK _ _ o _ rfl ho ?_;clear hK K ho;refine wK fun K hK=>?_;rcases tt4 (decide ((31:Int)<(t.length:Int))) (decide ((40:Int)<(draw.length:Int))) (decide ((100:Int)<(ctx.length:Int))) (decide ((5:Int)<(fresh.length:Int))) with hd|hd|hd|hd|hd;case inr.inr.inr.inr=>
  refine wS fun K hK=>?_;simp (config := { maxSteps := 1000000 }) only [↓DN,Qa,Qb,Qc,Qd,Qe,Qf,Qg,Qh,seval,TT,hd];refine hK _ _ ?_;clear hK K;refine gW ?_;refine hK _ _ ?_;clear hK K;simp only [decide_eq_false_iff_not] at hd;obtain ⟨d1,d2,d3,d4⟩:=hd;refine Jc fun K hK=>?_;refine dU (fun E s2=>∃ i : Nat,i<=t.length∧(∀ b ∈ t.take i,AU b)∧E 3 = .v (.int .i64 i)∧E 1 = .ij [.sl 5 t.length X .any,.v (.int .i64 leaf),.v (.int .i64 own),.sl 1 draw.length (draw.map cU) .any,.sl 1 ctx.length (ctx.map cU) .any,.sl 1 fresh.length (fresh.map ed) .any]∧s2 = s)
   (fun E _=>match E 3 with |.v (.int _ i)=>t.length-i.toNat|_=>0) ?_ ?_
  ·exact⟨0,ax _,sM,rfl,rfl,rfl⟩
  ·rintro E1 s4 ⟨i,hi,fG,g3,g1,rfl⟩ -
   refine wK fun K2 eH=>?_;by_cases et:i<t.length
   ·refine jB (Ai @g3 (Ai @g1 (Ai @dB (dT et)))) ?_;refine ue ?_;refine eH _ _<|nF fun K3 eX=>?_;have gC:(0:Int)<=(i:Int):=oM;have ou:=gO i et;have ir:=ad et;rw[xQ et] at ou;generalize t[i]=N at *
    obtain⟨nk,nm,ny,pH,nu⟩:=N;unfold cH.cells at ou;unfold dm ea at ou;rcases tt3 (decide ((40:Int)<(nm.length:Int))) (decide ((60:Int)<(pH.length:Int))) (decide ((40:Int)<(nu.length:Int))) with hb|hb|hb|hb;case inr.inr.inr=>
     refine wS fun K hK=>?_;simp (config := { maxSteps := 1000000 }) only [↓DN,Qa,Qb,Qc,Qd,Qe,Qf,Qg,Qh,seval,TT,g3,g1,gC,dB,et,ou,hb];refine hK _ _ ?_;clear hK K;refine gW ?_;simp only [dn,dJ,if_true,if_false];refine eX _ _<|jD (Ai @g3 (eK i oM)) ?_;simp only [decide_eq_false_iff_not] at hb;refine ⟨⟨i + 1,oM,?_,rfl,g1,rfl⟩,?_⟩
     ·rw[ir];intro x hx;rw[List.mem_append,List.mem_singleton] at hx;rcases hx with hx|rfl
      ·exact fG x hx
      ·exact⟨by simp only;omega,by simp only;omega,by simp only;omega⟩
     ·simp only[g3,dY,↓reduceIte];omega
    all_goals
     refine wS fun K hK=>?_;simp (config := { maxSteps := 1000000 }) only [↓DN,Qa,Qb,Qc,Qd,Qe,Qf,Qg,Qh,seval,TT,g3,g1,gC,dB,et,ou,hb];refine hK _ _ ?_;clear hK K;refine mS ?_;exact ⟨_,_,AV.dV.refl _,AS.le.refl _,⟨false,rfl,fun h=>by cases h⟩,rfl⟩
   ·refine jB (Ai @g3 (Ai @g1 (Ai @dB (dF et)))) ?_;refine sI ?_;simp only[dJ,dn,if_true];refine hK _ _<|wq ?_;rw[af oM] at fG;exact⟨_,_,AV.dV.refl _,AS.le.refl _,⟨true,rfl,fun _=>⟨oM,oM,oM,oM,fG⟩⟩,rfl⟩
 all_goals
  refine wS fun K hK=>?_;simp (config := { maxSteps := 1000000 }) only [↓DN,Qa,Qb,Qc,Qd,Qe,Qf,Qg,Qh,seval,TT,hd];refine hK _ _<|mS ?_;exact ⟨_,_,AV.dV.refl _,AS.le.refl _,⟨false,rfl,fun h=>by cases h⟩,rfl⟩
theorem ZI(x y:fa):Jr prog 67 .neq x.cells y.cells=some (.v (.bool (decide (x≠y)))):=by
 have h:Jr prog 67 .neq x.cells y.cells=some (.v (.bool (!((x.node==y.node)&&(((x.key:Nat):Int)==((y.key:Nat):Int)&&true))))):=by
  kernel_rfl
 rw[h];refine congrArg (fun b=>some (AV.v (Value.bool b))) ?_;obtain⟨a,b⟩:=x;obtain⟨c,d⟩:=y;rw[bB];simp only[cI,Bool.not_eq_true',Bool.and_eq_false_iff,beq_eq_false_iff_ne,ne_eq,fa.mk.injEq,decide_eq_true_iff,not_and];constructor
 ·rintro(h|h) q
  ·exact absurd q h
  ·omega
 ·intro h;by_cases q:a=c
  ·exact .inr (by have:=h q;omega)
  ·exact .inl q
theorem Ii(a b:List fa)(ha:a.length<=2^60)(s:AS):aI prog Γ 14 [lT a,lT b] s (.v (.bool (decide (a=b)))):=by
 refine xH func14 ntmps14 results14 ?_;have ra:=fun i(h:i<a.length)=>nv (c:=fa.cells) (k:=2) (fun _=>rfl) h;have rb:=fun i(h:i<b.length)=>nv (c:=fa.cells) (k:=2) (fun _=>rfl) h;unfold lT;generalize eb fa.cells a=XA at *
 generalize eb fa.cells b=XB at *
 refine yd fun K hK=>?_;by_cases hl:a.length=b.length
 ·have e1:((a.length:Int) != (b.length:Int))=false:=(by rw[hl];simp);refine jB @e1 ?_;refine gW ?_;refine hK _ _<|Jc fun K hK=>?_;refine dU (fun E s2=>∃i:Nat,i<=a.length∧a.take i=b.take i∧E 5=.v (.int .i64 i)∧E 0=.sl 2 a.length XA .any∧E 1=.sl 2 b.length XB .any∧s2=s)
   (fun E _=>match E 5 with |.v (.int _ i)=>a.length-i.toNat|_=>0) ?_ ?_
  ·exact⟨0,ax _,rfl,rfl,rfl,rfl,rfl⟩
  ·rintro E1 s2 ⟨i,hi,heq,g5,g0,g1,rfl⟩ -
   refine wK fun K2 eH=>?_;by_cases et:i<a.length
   ·have Jk:i<b.length:=oM;have gC:(0:Int)<=(i:Int):=oM;have hta:=ad et;have htb:=ad Jk;have qa:=ra i et;have qb:=rb i Jk;have gP:=ZI (a[i]) (b[i]);have Bi:a[i]≠b[i]->a≠b:=fun h q=>h (by simp only[q]);refine jB (Ai @g5 (Ai @g0 (Ai @dB (dT et)))) ?_;refine ue ?_;refine eH _ _<|nF fun K3 eX=>?_;generalize a[i]=p at *
    generalize b[i]=q at *
    have Cu:p.cells.length=2:=rfl;have hql:q.cells.length=2:=rfl;have hpt:a8 2 p.cells=p.cells:=rfl;have hqt:a8 2 q.cells=q.cells:=rfl;by_cases ZJ:p=q
    ·rw[dF (fun k=>k ZJ)] at gP;refine eB T.mixed [] kM ?_;intro K hK;refine jV (Ai @g5 (Ai @g0 (Ai @g1 (Ai @dB (Ai @et (Ai @Jk (Ai @gC (Ai @qa (Ai @qb (Ai @Cu (Ai @hql (Ai @hpt (Ai @hqt @gP))))))))))))) hK ?_;clear hK K;refine gW ?_;simp only[dn,dJ,if_true,if_false];refine eX _ _<|jD (Ai @g5 (eK i oM)) ?_;refine⟨⟨i+1,oM,by rw[hta,htb,heq,ZJ],rfl,g0,g1,rfl⟩,?_⟩;simp only[g5,dY,↓reduceIte];omega
    ·rw[dT ZJ] at gP;refine eB T.mixed [] kM ?_;intro K hK;refine jV (Ai @g5 (Ai @g0 (Ai @g1 (Ai @dB (Ai @et (Ai @Jk (Ai @gC (Ai @qa (Ai @qb (Ai @Cu (Ai @hql (Ai @hpt (Ai @hqt @gP))))))))))))) hK ?_;clear hK K;refine mS ?_;rw[dF (Bi ZJ)];exact jW ⟨rfl,rfl⟩
   ·refine jB (Ai @g5 (Ai @g0 (Ai @dB (dF et)))) ?_;refine sI ?_;simp only[dJ,dn,if_true];refine hK _ _ ?_;rw[af oM,af oM] at heq;refine wq ?_;rw[dT heq];exact jW ⟨rfl,rfl⟩
 ·have e1:((a.length:Int) != (b.length:Int))=true:=by
   rw[bne_iff_ne];omega
  refine jB @e1 ?_;refine mS ?_;rw[dF (fun q=>hl (by rw[q]))];exact jW ⟨rfl,rfl⟩
theorem Nx{n:cH}(h:n.right):n.nS.length<=2^61∧n.key<2^64:=by
  have hu:=(sT h).1;refine⟨oM,?_⟩;rcases oN h with hk|hk|hk
  · rw[(qY hk).1 h];decide
  · have:=((lk hk).1 h).2.2.1.2.1;omega
  · have:=((me hk).1 h).2.1.2.1;omega
theorem GC{t:List cH}(hr:eJ t):t.length<=63:=by
  rcases fA (t:=t) with h|h
  · exact absurd h hr.1
  · have:=h.1.le;omega
theorem Ny{t:List cH}(hr:eJ t):iD t:=by
  refine⟨by have:=GC hr;omega,fun n hn=>?_⟩;obtain⟨i,hi,rfl⟩:=List.mem_iff_getElem.1 hn;have:=hr.nd i;rw[xQ hi] at this;exact Nx this
theorem KM{leaf l:Nat}(hl:Fit l)(h:leaf<l){i:Nat}(hi:i<(dR leaf l).length):(dR leaf l).getD i 0%2=1:=by
  have:=vv hl h _ (List.getElem_mem hi);simpa[a7,hi] using this.2.1
theorem GD{t:List cH}{leaf:Nat}(fN:Fit (ee t))(kS:leaf<ee t)(keys:List Nat)(fresh:List Int):∀i,i<=(dR leaf (ee t)).length->∀a,nd (sy t leaf keys fresh i).1 (2*a)=nd t (2*a)
  |0,_,_=>rfl
  |i+1,h,a=>by
    have ih:=GD fN kS keys fresh i oM a;have ho:=KM fN kS (i:=(dR leaf (ee t)).length-1-i) oM;simp only[sy];rw[Go.AM.D0,if_neg (fun q=>by have:=q.1;omega),ih]
theorem KN{t:List cH}{leaf:Nat}(fN:Fit (ee t))(nD:t.length=2*ee t-1)(kS:leaf<ee t)(keys:List Nat)(fresh:List Int):∀i,i<=(dR leaf (ee t)).length->∀j,(dR leaf (ee t)).length-i<=j->j<(dR leaf (ee t)).length->(nd (sy t leaf keys fresh i).1 ((dR leaf (ee t)).getD j 0)).key=keys.getD j 0
  |0,_,j,h1,h2=>oM
  |i+1,h,j,h1,h2=>by
    have CB:=VX fN kS (i:=(dR leaf (ee t)).length-1-i) oM;simp only[sy];rw[Go.AM.D0];by_cases e:j=(dR leaf (ee t)).length-1-i
    · subst e;rw[if_pos ⟨rfl,by rw[lW];omega⟩]
    · have gP:(dR leaf (ee t)).getD ((dR leaf (ee t)).length-1-i) 0≠(dR leaf (ee t)).getD j 0:=by
        have kR:(dR leaf (ee t)).length-1-i<(dR leaf (ee t)).length:=oM;have hnd:=List.pairwise_iff_getElem.1 (NA fN kS) _ _ kR h2 oM;simpa only[a7,ae h2,ae kR,bm] using hnd
      rw[if_neg (fun q=>gP q.1)];exact KN fN nD kS keys fresh i oM j oM h2
theorem V5{t u:List cH}(h:u.length=t.length):ee u=ee t:=by unfold ee;rw[h]
theorem GF(t:List cH)(leaf key:Nat)(keys:List Nat)(fresh:List Int):(iK t leaf key keys fresh).length=t.length:=by
  unfold iK;simp only[bY];exact lW ..
theorem qo(d:List UInt8)(m:Nat):(eI d m).length=m:=by
  unfold eI;rw[aQ,List.length_range]
theorem zp(d:List UInt8){m j:Nat}(h:j<(eI d m).length):(eI d m)[j]=od (fw d (j+1)):=by
  simp only[eI,List.getElem_map,List.getElem_range]
theorem KO(d:List UInt8){m j:Nat}(h:j<m):(eI d m).getD j 0=od (fw d (j+1)):=by
  have h':j<(eI d m).length:=(by rw[qo];exact h);rw[List.getD_eq_getElem?_getD,ae h',bm,zp]
theorem zq{t:List cH}{lf:Nat}{d:List UInt8}{fresh:List Int}{m:Nat}(h4:pD t lf d fresh m=true):∀k∈eI d m,lV k=true:=by
  intro k hk;obtain⟨i,hi,he⟩:=List.mem_iff_getElem.1 hk;rw[<-he,zp];rw[qo] at hi;exact AO (D6 h4 hi)
theorem S4{t:List cH}{leaf:Nat}(fN:Fit (ee t))(nD:t.length=2*ee t-1)(kS:leaf<ee t)(key:Nat)(keys:List Nat)(fresh:List Int):
    (∀i:Int,gE t i->gE (iK t leaf key keys fresh) i)∧∀j,j<(dR leaf (ee t)).length->(nd (iK t leaf key keys fresh) ((dR leaf (ee t)).getD j 0)).key=keys.getD j 0:=by
  have he:=GD fN kS keys fresh _ (aE _);have hwk:=KN fN nD kS keys fresh _ (aE _);have AB:=lW t leaf keys fresh (dR leaf (ee t)).length;have hlen:=GF t leaf key keys fresh;have hnd:∀j,nd (iK t leaf key keys fresh) j=if 2*leaf=j∧2*leaf<t.length then{nd t (2*leaf) with key:=key,parent:=(sy t leaf keys fresh (dR leaf (ee t)).length).2} else nd (sy t leaf keys fresh (dR leaf (ee t)).length).1 j:=by
    intro j;unfold iK;simp only;rw[Go.AM.D0,he,AB]
  generalize iK t leaf key keys fresh=W at *
  generalize sy t leaf keys fresh (dR leaf (ee t)).length=V at *
  refine⟨?_,?_⟩
  · intro i hi;refine⟨hi.1,by rw[hlen];exact hi.2.1,?_⟩;rw[hnd];split
    · rename_i q;show(nd t (2*leaf)).kind=1;rw[q.1];exact hi.2.2
    · rw[he];exact hi.2.2
  · intro j hj;have ho:=KM fN kS hj;rw[hnd,if_neg (fun q=>by have:=q.1;omega)];exact hwk j oM hj
theorem S5{t:List cH}{lf:Nat}{d ctx:List UInt8}{fresh:List Int}(h:(jy t lf d ctx fresh).2=0):
    eJ (rm t lf d fresh)∧ee (rm t lf d fresh)=ee t∧(∀i:Int,gE t i->gE (rm t lf d fresh) i)∧∀j,j<(dR lf (ee t)).length->(nd (rm t lf d fresh) ((dR lf (ee t)).getD j 0)).key=od (fw d (j+1)):=by
  obtain⟨h1,-,h3,h4,-⟩:=zl h;rw[aw] at h4;obtain⟨hr,hm⟩:=oR.1 h1;obtain⟨fN,nD⟩:Fit (ee t)∧t.length=2*ee t-1:=by
    rcases fA (t:=t) with h|h
    · exact absurd h hr.1
    · exact h
  have uK:=fN.le;have kS:lf<ee t:=by
    have:=hm.2.1;omega
  have sD:=qo d (dR lf (ee t)).length;have LC:=zq h4;have hkg:=fun j(hj:j<(dR lf (ee t)).length)=>KO d hj;unfold rm;generalize eI d (dR lf (ee t)).length=KS at *
  generalize mM d=op at *
  obtain⟨w1,w2⟩:=S4 fN nD kS op KS fresh;refine⟨?_,V5 (GF ..),w1,fun j hj=>by rw[w2 j hj,hkg j hj]⟩;rw[Oz LC oM];exact Nd hr hm h3 LC oM
end Go.Proofs.YtbiefppedlodiaaGreatDoor
