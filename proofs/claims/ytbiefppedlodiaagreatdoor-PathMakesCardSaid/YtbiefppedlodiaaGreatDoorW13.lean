/- Contracts of functions, each walked once; each theorem states its conditions. -/
import Derived.Test.YtbiefppedlodiaaGreatDoorAMp6
import Derived.Test.YtbiefppedlodiaaGreatDoorW1
import Derived.Test.YtbiefppedlodiaaGreatDoorW12
import Derived.Test.YtbiefppedlodiaaGreatDoorW7
import Derived.Test.YtbiefppedlodiaaGreatDoorW6
import Derived.Test.YtbiefppedlodiaaGreatDoorW2
import Derived.Test.YtbiefppedlodiaaGreatDoorRows
import Derived.Test.YtbiefppedlodiaaGreatDoorW4
import Derived.ProofKit
import Derived.LaidMore
import Derived.MakeChecks
import Derived.OpenShut
open Char renaming ofNat -> aa
open List renaming all_eq_true -> aw, getElem?_map -> aF, mem_map -> bF, mem_range -> bx
open Option renaming map_some -> b9
open Option.some renaming inj -> bC, injEq -> bq
set_option linter.unusedSimpArgs false
set_option linter.unusedVariables false
open Nat renaming reduceLT -> Na, reduceLeDiff -> Nb, reduceEqDiff -> Nc, reduceAdd -> Nk, reduceMul -> Nf, reducePow -> Ng, reduceSub -> Nh, reduceBEq -> Nz
open Int renaming reduceLT -> Za, reduceLE -> Zb, reduceToNat -> Zc
open And renaming intro -> Ai
open Go.AM renaming ashift -> Qa, aconv -> Qb, aindexAddr -> Qc, aindex -> Qd, aslice -> Qe, abuiltin -> Qf, awp_reg_seq -> wS, awp_reg_end -> wE, awp_seq_k -> wK, awp_cond_k -> wC
open Go.AM.AV renaming cells -> Qg, one -> Qh
set_option maxRecDepth 100000
set_option maxHeartbeats 8000000
namespace Go.Proofs.YtbiefppedlodiaaGreatDoor
open Go Go.AM Go.Proofs Tryz
variable{Γ:Nat->List AV}
def vG(M:p7)(e:Int):AV:=.ka [.agg [.v (.int .u64 (M.p.key:Nat)),dm M.p.parent .any,.sl 2 M.p.steps.length (eb ft.cells M.p.steps) .any,eA M.t,lT M.held,.v (.string ⟨M.Nn.toArray⟩)],.v (.int .i64 e)]
def D8(x:gg):List AV:=[.v (.int .u64 (x.ot:Nat)),.sl 1 x.text.length (x.text.map cU) .no]
theorem D9:∀l:List gg,kj.dV (eb D8 l) (eb gg.cells l)
 |[]=>.nil
 |x::l=>by
  have h:=D9 l;have e1:eb D8 (x::l)=[.v (.int .u64 (x.ot:Nat)),.sl 1 x.text.length (x.text.map cU) .no]++eb D8 l:=rfl;have e2:eb gg.cells (x::l)=[.v (.int .u64 (x.ot:Nat)),dm x.text .any]++eb gg.cells l:=rfl;rw[e1,e2];exact kj.dV.append (.cons (.refl _) (.cons AV.fc .nil)) h
theorem ni{sz n tk e:Nat}{cs:List AV}{x:AV}(h:eY x≠some tk):∀t,eY (.sl sz n cs (.own tk e))=some t->eY x≠some t:=by
 intro t h1 h2;simp only[eY,bq] at h1;subst h1;exact h h2
theorem wg{sz n tk e:Nat}{cs:List AV}{x:AV}(h:eY x≠some tk):∀t,eY x=some t->eY (.sl sz n cs (.own tk e))≠some t:=by
 intro t h1 h2;simp only[eY,bq] at h2;subst h2;exact h h1
theorem nw(a b:AV):rF 2 [a,b]=[a,b]:=rfl
theorem Cf(jg:Γ 0=jZ Sha.H0)(mC:Γ 1=Sha.K.map wV)(t:List cH)(ht:iD t)(LV:t.length<=2^30)(leaf:Int)
  (d ctx:List UInt8) (hd:d.length<=2^36) (DY:ctx.length<=2^30) (fresh:List Int) (hf:fresh.length<=2^40) (s:AS):
  dS prog Γ 11 [eA t,.v (.int .i64 leaf),.v (.string ⟨d.toArray⟩),.v (.string ⟨ctx.toArray⟩),ea fresh .any] s (fun r s'=>r=vG (jy t leaf d ctx fresh).1 (jy t leaf d ctx fresh).2∧s'=s):=by
 refine fm func11 rfl ntmps11 results11 (by simp) ?_;have KD:=fun s=>Ea (Γ:=Γ) t ht leaf s;have jf:=fun s=>pU (Γ:=Γ) t ht.1 s;have SR:=fun n s=>oP (Γ:=Γ) n s;obtain⟨R,hR⟩:∃R,R=jy t leaf d ctx fresh:=⟨_,rfl⟩;rw[<-hR];obtain⟨R1,R2⟩:=R;simp only;unfold jy at hR;have mq:∀(nP:Nat)(e:Int),R1=p7.no->R2=e->∀(E:Env)(s5:AS),s.le s5->s5.dD nP=some [.v (.int .u64 0),.v (.slice none 0 0),.v (.slice none 0 0),.v (.slice none 0 0),.v (.slice none 0 0),.v (.string .empty)]->E 10=.ptr nP 0->E 11=.v (.int .i64 e)->
   fX prog (#[ResultVar.cell 10 38,ResultVar.tmp 11]:Array ResultVar).toList (fun r s'=>r=vG R1 R2∧s'=s) .ret E s5:=by
  intro nP e h1 h2 E s5 hle ho f10 f11;subst h1 h2;refine kn (o:=nP) (off:=0) f10 ho (by rw[T.c38];decide) (by simp only[↓DN,Qa,Qb,Qc,Qd,Qe,Qf,Qg,Qh,reduceCtorEq,↓reduceIte,Na,Nb,Nc,Nk,Nf,Ng,Nh,Za,Zb,Zc,TT];rfl) ?_;rw[f11];exact⟨_,s,AV.gJ (AV.qS (.cons (.refl _) (.cons AV.eh (.cons AV.eh (.cons AV.eh (.cons AV.eh (.cons (.refl _) .nil))))))) (AV.dV.refl _),hle,rfl,rfl⟩
 unfold eA at KD jf⊢;unfold ea;refine jQ fun K hK=>?_;intro nP OC;refine hK _ _ ?_;clear hK K;have OD:=AS.bG s nP [.v (.int .u64 0),.v (.slice none 0 0),.v (.slice none 0 0),.v (.slice none 0 0),.v (.slice none 0 0),.v (.string .empty)];have hle:=AS.dW (AS.le.refl s) OC [.v (.int .u64 0),.v (.slice none 0 0),.v (.slice none 0 0),.v (.slice none 0 0),.v (.slice none 0 0),.v (.string .empty)];generalize s.set nP [.v (.int .u64 0),.v (.slice none 0 0),.v (.slice none 0 0),.v (.slice none 0 0),.v (.slice none 0 0),.v (.string .empty)]=s1 at *
 refine jK (KD _) ?_;rintro s2 rfl;refine wK fun K hK=>?_;by_cases he:qn t leaf=0
 ·have e0:(qn t leaf != 0)=false:=(by simp[he]);rw[if_neg (by rw[he];simp)] at hR;refine jB @e0 ?_;refine jF ?_;refine dX ?_;refine hK _ _ ?_;clear hK K;obtain⟨hr,hm⟩:=oR.1 he;obtain⟨lf,rfl⟩:=Int.eq_ofNat_of_zero_le hm.1;obtain⟨fN,nD⟩:Fit (ee t)∧t.length=2*ee t-1:=by
   rcases fA (t:=t) with h|h
   ·exact absurd h hr.1
   ·exact h
  have uK:=fN.le;have kS:lf<ee t:=by
   have:=hm.2.1;omega
  refine wK fun K hK=>?_;by_cases ye:d.length=32
  ·have e2:((d.length:Int) != 32)=false:=(by rw[ye];rfl);rw[if_neg (fun k=>k ye)] at hR;refine jB @e2 ?_;refine jF ?_;refine dX ?_;refine hK _ _ ?_;clear hK K;have Np:=fun s=>pS (Γ:=Γ) d uu hd (by decide) s;have pR:=fun s=>nZ (Γ:=Γ) (Kdf.derive d uu) (by rw[ml];decide) s;have KA:=fun s=>lD (Γ:=Γ) (vD d) (OB d) s;have BM:∀s,dS prog Γ 18 [.v (.string ⟨(Kdf.derive d uu).toArray⟩)] s (fun r s'=>r=.v (.int .u64 (vD d:Nat))∧s'=s):=pR;have zi:∀s,dS prog Γ 19 [.v (.int .u64 (vD d:Nat))] s (fun r s'=>r=.v (.int .u64 (mM d:Nat))∧s'=s):=KA;clear pR KA;have Ce:=fun s=>SR (mM d) s;generalize Kdf.derive d uu=dl at *
   obtain⟨ok,mR⟩:∃ok,ok=vD d:=⟨_,rfl⟩;obtain⟨op,lJ⟩:∃op,op=mM d:=⟨_,rfl⟩;rw[<-mR] at BM zi;rw[<-lJ] at zi Ce hR;unfold uu at Np;refine jQ fun K hK=>?_;refine b6 (Np _) ?_;rintro r s3 ⟨rfl,rfl⟩;refine jM ?_;refine b6 (BM _) ?_;rintro r s4 ⟨rfl,rfl⟩;refine jR hK ?_;clear hK K;refine jQ fun K hK=>?_;refine b6 (zi _) ?_;rintro r s5 ⟨rfl,rfl⟩;refine jN (Ai (fp lf (by omega)) @nw) ?_;intro uj X8;refine hK _ _ ?_;clear hK K;have gP:uj≠nP:=(fun e=>by subst e;rw[OD] at X8;cases X8);have Q4:=none_le hle X8;have xcq:=Q4;obtain⟨H0,SW⟩:∃H0,H0=AV.sl 2 1 [.v (.int .i64 (2*lf:Nat)),.v (.int .u64 ok)] .new:=⟨_,rfl⟩;rw[<-SW];have D5:=(AS.cO s5 (Ne.symm gP) [.v (.int .u64 op),.v (.slice none 0 0),.v (.slice none 0 0),.v (.slice none 0 0),H0,.v (.string .empty)]).trans OD;have Je:=AS.bG s5 uj [.v (.int .u64 op),.v (.slice none 0 0),.v (.slice none 0 0),.v (.slice none 0 0),H0,.v (.string .empty)];have Nl:=AS.dW hle Q4 [.v (.int .u64 op),.v (.slice none 0 0),.v (.slice none 0 0),.v (.slice none 0 0),H0,.v (.string .empty)];generalize s5.set uj [.v (.int .u64 op),.v (.slice none 0 0),.v (.slice none 0 0),.v (.slice none 0 0),H0,.v (.string .empty)]=s6 at *
   clear OD hle X8;refine wK fun K hK=>?_;obtain⟨q,hq⟩:∃q,q=lV op:=⟨_,rfl⟩;have LW:(decide (2<=(op:Int))&&decide ((op:Int)<=2305843009213693949))=q:=hq.symm;rw[LW] at Ce;rw[<-hq] at hR;refine jS @Je fun K hK=>?_;refine b6 (Ce _) ?_;rintro r s7 ⟨rfl,rfl⟩;cases q with
   |false=>
    rw[if_pos rfl] at hR;refine jR hK ?_;clear hK K;refine jE ?_;refine jB @D5 ?_;refine eF ?_;try simp only[dJ,dn]
    exact mq nP 30 (congrArg (·.1) hR) (congrArg (·.2) hR) _ _ (rk Nl OC _) (AS.bG _ _ _) rfl rfl
   |true=>
    rw[if_neg (by decide)] at hR;refine jR hK ?_;clear hK K;refine jF ?_;refine dX ?_;refine hK _ _ ?_;clear hK K;clear Ce zi BM Np;have oA:=fun s=>pP (Γ:=Γ) lf (ee t) fN kS s;have Gt:=fh (dR lf (ee t));have Cu:=kV fN kS;unfold ea at oA;rw[Gt] at oA;refine jK (jf _) ?_;rintro s8 rfl;refine jK (oA _) ?_;rintro s9 rfl;refine jA ?_;refine wK fun K hK=>?_;refine jA ?_;have hUg:∀i,i<(dR lf (ee t)).length->(List.take 1 (List.drop i ((ew (dR lf (ee t))).map ed)))[0]? =some (AV.v (.int .i64 ((dR lf (ee t)).getD i 0:Nat))):=by
     intro i hi;simp[List.getElem?_take,ew,hi,ed]
    have KP:=fun i(hi:i<(dR lf (ee t)).length)s=>uw (Γ:=Γ) lf (ee t) i fN kS hi s;have iz:=fun i(hi:i<(dR lf (ee t)).length)s=>zr (Γ:=Γ) t hr fresh (by omega) (fE (nodeAt lf (ee t) i)) (CD fN kS nD hi) s;have X9:∀i,ff t (fE (nodeAt lf (ee t) i):Nat) fresh=kt t lf fresh i:=fun _=>rfl;have Ya:∀i(hi:i<(dR lf (ee t)).length),∀x∈kt t lf fresh i,∃m:Nat,x=(m:Int)∧m<t.length∧(nd t m).kind≠0∧p5 m (fE (nodeAt lf (ee t) i)):=fun i hi x hx=>H6 hr fresh (CD fN kS nD hi) hx;have mj:=fun i(hi:i<(dR lf (ee t)).length+1)s=>zc (Γ:=Γ) d hd i (by omega) s;have Gy:=fun keys hk Yb s=>Cg (Γ:=Γ) jg mC t ht LV hr lf hm op keys hk Yb fresh hf s;have xgl:=GC hr;have gO:=fun i(h:i<t.length)=>gL h;simp only[X9] at iz;unfold eA ea at iz;rw[Int.toNat_natCast] at hR;generalize hXe:eb cH.cells t=X at *
    generalize ZE:dR lf (ee t)=P at *
    generalize ew P=U at *
    refine dH ?_;refine dU (fun E s2=>∃(i:Nat)(zP zK zH:AV),i<=P.length∧(∀j,j<i->stepG d j (kt t lf fresh j)=true)∧(E 18=.v (.int .i64 i)∧E 16=.sl 1 P.length (U.map ed) .any∧E 15=.v (.int .i64 (ee t))∧E 0=.sl 5 t.length X .any∧E 1=.v (.int .i64 lf)∧E 2=.v (.string ⟨d.toArray⟩)∧E 3=.v (.string ⟨ctx.toArray⟩)∧E 4=.sl 1 fresh.length (fresh.map ed) .any∧E 10=.ptr nP 0∧E 14=.ptr uj 0)∧E 17=zK∧s2.dD nP=some [.v (.int .u64 0),.v (.slice none 0 0),.v (.slice none 0 0),.v (.slice none 0 0),.v (.slice none 0 0),.v (.string .empty)]∧s2.dD uj=some [.v (.int .u64 op),.v (.slice none 0 0),zP,.v (.slice none 0 0),zH,.v (.string .empty)]∧
      gA 2 s s2 zP i (eb ft.cells (eG t lf d ctx fresh i)) eW 0 []∧gA 1 s s2 zK i ((eI d i).map iE) eW 0 []∧gA 2 s s2 zH (i+1) (eb fa.cells (fg lf d P i)) H0 1 [.v (.int .i64 (2*lf:Nat)),.v (.int .u64 ok)]∧
      (∀t,eY zP=some t->eY zK≠some t)∧(∀t,eY zP=some t->eY zH≠some t)∧(∀t,eY zK=some t->eY zH≠some t)∧s.le s2)
     (fun E _=>match E 18 with |.v (.int _ i)=>P.length-i.toNat|_=>0) ?_ ?_
    ·exact⟨0,eW,eW,H0,Nat.zero_le _,fun j h=>absurd h (Nat.not_lt_zero _),⟨rfl,rfl,rfl,rfl,rfl,rfl,rfl,rfl,rfl,rfl⟩,rfl,D5,Je,.inl ⟨rfl,rfl,rfl⟩,.inl ⟨rfl,rfl,rfl⟩,
      .inl ⟨rfl,rfl,by rw[mR];rfl⟩,(fun t h=>by cases h),(fun t h=>by cases h),(fun t h=>by cases h),Nl⟩
    ·clear D5 Je Nl;rintro E1 Sv ⟨i,zP,zK,zH,hi,Jg,⟨g18,g16,g15,g0,g1,g2,g3,g4,g10,g14⟩,g17,D5,Je,bP,bK,bH,dPK,dPH,dKH,hle⟩ -
     refine wK fun K2 eH=>?_;by_cases et:i<P.length
     ·have fB:((i:Nat):Int)<((P.length:Nat):Int):=(by omega);have gC:(0:Int)<=((i:Nat):Int):=(by omega);have UT:=hUg i et;have c1:=fun s=>mj i (by omega) s;have wY:=sQ d i;have c2:=fun s=>AL (Γ:=Γ) (fw d (i+1)) (by omega) s;have c3:=fun s=>lD (Γ:=Γ) (rJ (fw d (i+1))) (H5 _) s;have ZC:=OE (fw d (i+1));rw[<-ZC] at c3;have c4:=fun s=>SR (od (fw d (i+1))) s;have c5:=fun s=>KP i et s;have c6:=fun s=>iz i et s;have hmR:=Ya i et;obtain⟨RM,hRM⟩:∃RM,RM=kt t lf fresh i:=⟨_,rfl⟩;have S6:stepG d i (kt t lf fresh i)=false->R1=p7.no∧R2=30:=fun Jh=>by
       have hb:pD t lf d fresh P.length=false:=by
        unfold pD;rw[List.all_eq_false];exact⟨i,List.mem_range.2 et,by rw[Jh];decide⟩
       rw[if_pos hb] at hR;exact⟨congrArg (·.1) hR,congrArg (·.2) hR⟩
      have lA:=vF t lf d ctx fresh i;have oq:=xb d i;have LY:=xc lf d P i;have hSh:vE d P i=⟨(P.getD i 0:Nat),rJ (fw d (i+1))⟩:=rfl;rw[hSh] at LY;have hSS:kB t d ctx i (kt t lf fresh i)=⟨od (fw d (i+1)),(kt t lf fresh i).map fun n=>rj t d ctx i n.toNat⟩:=(by unfold kB;exact Eq.refl _);rw[hSS] at lA;have xcr:lV (od (fw d (i+1)))=false->stepG d i (kt t lf fresh i)=false:=(fun h=>by unfold stepG;rw[h];rfl);have ZK:∀k,(h:k<(kt t lf fresh i).length)->uq d i (kt t lf fresh i)[k]=false->stepG d i (kt t lf fresh i)=false:=by
       intro k h hb;unfold stepG;rw[Bool.and_eq_false_iff];right;rw[List.all_eq_false];exact⟨(kt t lf fresh i)[k],List.getElem_mem h,by rw[hb];decide⟩
      have ZL:lV (od (fw d (i+1)))=true->(∀k,(h:k<(kt t lf fresh i).length)->uq d i (kt t lf fresh i)[k]=true)->stepG d i (kt t lf fresh i)=true:=by
       intro h1 h2;unfold stepG;rw[h1,Bool.true_and,List.all_eq_true];intro x hx;obtain⟨k,hk,rfl⟩:=List.mem_iff_getElem.1 hx;exact h2 k hk
      rw[<-hRM] at hmR xcr ZK ZL lA c6 S6;have hsc:∀m:Nat,rj t d ctx i m=⟨jv (ji d i m),jx (nd t m).key jc ctx (fw d (i+1)) (ji d i m)⟩:=fun _=>rfl;generalize od (fw d (i+1))=pk at *
      generalize rJ (fw d (i+1))=ky at *
      generalize xko:fw d (i+1)=sc at *
      refine jB (Ai @g18 (Ai @g16 (decide_eq_true fB))) ?_;refine jE ?_;refine dX ?_;refine eH _ _ ?_;clear eH K2;refine wK fun K3 eX=>?_;refine dH ?_;refine jS (Ai @g2 @g18) fun K hK=>?_;refine b6 (c1 _) ?_;rintro r X5 ⟨rfl,rfl⟩;refine jR hK ?_;clear hK K;refine jK (c2 _) ?_;rintro s13 rfl;refine jQ fun K hK=>?_;refine b6 (c3 _) ?_;rintro r Q4 ⟨rfl,rfl⟩;refine jM ?_;intro KR q21;refine hK _ _ ?_;clear hK K;have n10:KR≠nP:=(fun e=>by subst e;rw[D5] at q21;cases q21);have n14:KR≠uj:=(fun e=>by subst e;rw[Je] at q21;cases q21);have s21:=none_le hle q21;have FE:=(AS.cO Q4 (Ne.symm n10) [.v (.int .u64 pk),.v (.slice none 0 0)]).trans D5;have KT:=(AS.cO Q4 (Ne.symm n14) [.v (.int .u64 pk),.v (.slice none 0 0)]).trans Je;have Yc:=AS.bG Q4 KR [.v (.int .u64 pk),.v (.slice none 0 0)];have KB:=AS.dW hle s21 [.v (.int .u64 pk),.v (.slice none 0 0)];have kP:gA 2 s (Q4.set KR [.v (.int .u64 pk),.v (.slice none 0 0)]) zP i (eb ft.cells (eG t lf d ctx fresh i)) eW 0 []:=bP.keep fun t _=>rfl;have kK:gA 1 s (Q4.set KR [.v (.int .u64 pk),.v (.slice none 0 0)]) zK i ((eI d i).map iE) eW 0 []:=bK.keep fun t _=>rfl;have kH:gA 2 s (Q4.set KR [.v (.int .u64 pk),.v (.slice none 0 0)]) zH (i+1) (eb fa.cells (fg lf d P i)) H0 1 [.v (.int .i64 (2*lf:Nat)),.v (.int .u64 ok)]:=bH.keep fun t _=>rfl;generalize Q4.set KR [.v (.int .u64 pk),.v (.slice none 0 0)]=s15 at *
      clear D5 Je bP bK bH hle q21;obtain⟨F,hF⟩:∃F:Env->Prop,F=fun E=>E 18=.v (.int .i64 i)∧E 16=.sl 1 P.length (U.map ed) .any∧E 15=.v (.int .i64 (ee t))∧E 0=.sl 5 t.length X .any∧E 1=.v (.int .i64 lf)∧E 2=.v (.string ⟨d.toArray⟩)∧E 3=.v (.string ⟨ctx.toArray⟩)∧E 4=.sl 1 fresh.length (fresh.map ed) .any∧E 10=.ptr nP 0∧E 14=.ptr uj 0∧E 17=zK∧E 19=.v (.string ⟨sc.toArray⟩)∧E 20=.v (.int .u64 ky)∧E 21=.ptr KR 0:=⟨_,rfl⟩;refine wK fun K4 jm=>?_;obtain⟨q,hq⟩:∃q,q=lV pk:=⟨_,rfl⟩;have LW:(decide (2<=(pk:Int))&&decide ((pk:Int)<=2305843009213693949))=q:=hq.symm;rw[LW] at c4;refine jS @Yc fun K hK=>?_;refine b6 (c4 _) ?_;rintro r P2 ⟨rfl,rfl⟩;cases q with
      |false=>
       obtain⟨r1,r2⟩:=S6 (xcr hq.symm);refine jR hK ?_;clear hK K;refine jE ?_;refine jB (Ai @g10 @FE) ?_;refine eF ?_;try simp only[dJ,dn]
       exact mq nP 30 r1 r2 _ _ (rk KB OC _) (AS.bG _ _ _) g10 rfl
      |true=>
       refine jR hK ?_;clear hK K;refine jF ?_;refine dX ?_;refine jm _ _ ?_;clear jm K4;have P7:RM.length<=2^40:=by
        rw[hRM];unfold kt ff;split
        ·have h1:=mZ hr fresh (lv (fE (nodeAt lf (ee t) i):Int).toNat) (fE (nodeAt lf (ee t) i):Int).toNat;have h2:=rW (fE (nodeAt lf (ee t) i):Int).toNat;have h3:=Nat.pow_le_pow_right (show 0<2 by decide) h2;omega
        ·exact Nat.zero_le _
       obtain⟨L,hL⟩:∃L,L=RM.map fun n=>rj t d ctx i n.toNat:=⟨_,rfl⟩;rw[<-hL] at lA;have XX:L.length=RM.length:=(by rw[hL,List.length_map]);have Zy:∀k,(h:k<RM.length)->L.take (k+1)=L.take k++[rj t d ctx i (RM[k]).toNat]:=by
        intro k h;rw[List.take_succ_eq_append_getElem (by omega)];simp[hL]
       have xgB:stepG d i RM=true->stepG d i (kt t lf fresh i)=true:=(fun h=>by rw[<-hRM];exact h);clear hL hRM;refine jS (Ai @g0 (Ai @g1 (Ai @g15 (Ai @g18 @g4)))) fun K hK=>?_;refine b6 (c5 _) ?_;rintro r s17 ⟨rfl,rfl⟩;refine jN @g4 ?_;refine b6 (c6 _) ?_;rintro r s18 ⟨rfl,rfl⟩;refine jR hK ?_;clear hK K;refine wK fun K5 mE=>?_;refine jA ?_;have hO:(∀t,eY eW=some t->eY zP≠some t)∧(∀t,eY eW=some t->eY zK≠some t)∧(∀t,eY eW=some t->eY zH≠some t):=⟨(fun t h=>by cases h),(fun t h=>by cases h),(fun t h=>by cases h)⟩;refine dH ?_;refine dU (fun E s2=>∃(k:Nat)(zS:AV),k<=RM.length∧(∀j,(h:j<RM.length)->j<k->uq d i RM[j]=true)∧E 23=.v (.int .i64 k)∧E 22=.sl 1 RM.length (RM.map ed) .any∧F E∧s2.dD nP=some [.v (.int .u64 0),.v (.slice none 0 0),.v (.slice none 0 0),.v (.slice none 0 0),.v (.slice none 0 0),.v (.string .empty)]∧s2.dD uj=some [.v (.int .u64 op),.v (.slice none 0 0),zP,.v (.slice none 0 0),zH,.v (.string .empty)]∧s2.dD KR=some [.v (.int .u64 pk),zS]∧
         gA 2 s s2 zP i (eb ft.cells (eG t lf d ctx fresh i)) eW 0 []∧gA 1 s s2 zK i ((eI d i).map iE) eW 0 []∧gA 2 s s2 zH (i+1) (eb fa.cells (fg lf d P i)) H0 1 [.v (.int .i64 (2*lf:Nat)),.v (.int .u64 ok)]∧gA 2 s s2 zS k (eb D8 (L.take k)) eW 0 []∧
         ((∀t,eY zS=some t->eY zP≠some t)∧(∀t,eY zS=some t->eY zK≠some t)∧(∀t,eY zS=some t->eY zH≠some t))∧s.le s2)
        (fun E _=>match E 23 with |.v (.int _ k)=>RM.length-k.toNat|_=>0) ?_ ?_
       ·exact⟨0,eW,Nat.zero_le _,fun j _ h=>absurd h (Nat.not_lt_zero _),rfl,rfl,(by rw[hF];exact⟨g18,g16,g15,g0,g1,g2,g3,g4,g10,g14,g17,rfl,rfl,rfl⟩),FE,KT,Yc,kP,kK,kH,.inl ⟨rfl,rfl,rfl⟩,hO,KB⟩
       ·have gE1:=g18;clear FE KT Yc kP kK kH KB g18 g16 g15 g0 g1 g2 g3 g4 g10 g14 g17;rintro E2 ZM ⟨k,zS,hk,RV,g23,g22,fF,FE,KT,Yc,kP,kK,kH,kS',⟨dSP,dSK,dSH⟩,KB⟩ -
        have SY:=fF;rw[hF] at SY;obtain⟨g18,g16,g15,g0,g1,g2,g3,g4,g10,g14,g17,g19,g20,g21⟩:=SY;refine wK fun K6 ll=>?_;by_cases sC:k<RM.length
        ·have pB:((k:Nat):Int)<((RM.length:Nat):Int):=(by omega);have rK:(0:Int)<=((k:Nat):Int):=(by omega);obtain⟨m,hm2,hmt,JS,-⟩:=hmR RM[k] (List.getElem_mem sC);have hSi:(List.take 1 (List.drop k (RM.map ed)))[0]? =some (AV.v (.int .i64 (m:Nat))):=by
          simp[List.getElem?_take,sC,ed,hm2]
         have ir:=Zy k sC;have hfb:=ZK k sC;have Jh:uq d i RM[k]=lV (jv (ji d i m)):=(by rw[hm2];rfl);rw[hm2,Int.toNat_natCast,hsc] at ir;have vy:=fun s=>lS (Γ:=Γ) d BH [UInt8.ofNat i,UInt8.ofNat m] 32 hd (by simp[Kdf.fits];decide) s;have Yd:∀s,dS prog Γ 57 [.v (.string ⟨d.toArray⟩),.v (.string ⟨BH.toArray⟩),.v (.string ⟨[UInt8.ofNat i,UInt8.ofNat m].toArray⟩),.v (.int .i64 32)] s (fun r s'=>r=.v (.string ⟨(ji d i m).toArray⟩)∧s'=s):=vy;have ZN:=fun s=>H4 (Γ:=Γ) (nd t m).key (SP hr JS) jc ctx sc (ji d i m) (by decide) DY (by omega) (by have:=Kw d i m;omega) s;have hpf:=fun s=>SR (jv (ji d i m)) s;have xct:=gO m hmt;generalize jv (ji d i m)=fr at *
         generalize jx (nd t m).key jc ctx sc (ji d i m)=tx at *
         clear vy;generalize ji d i m=sd2 at *
         generalize nd t m=N at *
         obtain⟨a1,a2,a3,a4,a5⟩:=N;unfold cH.cells at xct;simp only at ZN;unfold BH at Yd;unfold jc at ZN;have Dh:((m:Nat):Int)<((t.length:Nat):Int):=(by omega);have S7:(0:Int)<=((m:Nat):Int):=(by omega);have hB:∀n:Nat,AV.v (.int .u8 (gq .u8 (n:Int)))=cU (UInt8.ofNat n):=fun n=>(va n).symm;have htb:p8 [AV.v (.int .u8 (gq .u8 (i:Int))),AV.v (.int .u8 (gq .u8 (m:Int)))]=⟨[UInt8.ofNat i,UInt8.ofNat m].toArray⟩:=(by rw[hB,hB];exact lF [_,_]);have Jk:∀n:Nat,isByte (AV.v (.int .u8 (gq .u8 (n:Int))))=true:=(fun n=>by rw[hB];rfl);have US:(((0:Nat):Int)==0)=true:=rfl;have e01:(((0:Nat):Int) != 0)=false:=rfl;refine jB (Ai @g23 (Ai @g22 (decide_eq_true pB))) ?_;refine jE ?_;refine dX ?_;refine ll _ _ ?_;clear ll K6;refine wK fun K7 v7=>?_;refine dH ?_;refine wS fun K hK=>?_;simp only[↓DN,Qa,Qb,Qc,Qd,Qe,Qf,Qg,Qh,reduceCtorEq,↓reduceIte,Na,Nb,Nc,Nk,Nf,Ng,Nh,Za,Zb,Zc,TT,g2,g18,g22,g23,pB,rK,hSi,htb,Jk,List.replicate_succ,List.replicate_zero,List.all_cons,List.all_nil,Bool.and_self];refine b6 (Yd _) ?_;rintro r s20 ⟨rfl,rfl⟩;refine jR hK ?_;clear hK K;refine ev 25 (by decide) ?_;intro K8 EW;refine jN (Ai @g0 (Ai @g22 (Ai @g23 (Ai @pB (Ai @rK (Ai @hSi (Ai @S7 (Ai @Dh (Ai @xct (Ai @g3 @g19)))))))))) ?_;refine b6 (ZN _) ?_;rintro r s21 ⟨rfl,rfl⟩;refine jM ?_;intro o2 q2;refine EW _ _ o2 _ rfl q2 ?_;clear EW K8 q2;refine wK fun K8 EW=>?_;refine jS @US fun K hK=>?_;refine b6 (hpf _) ?_;rintro r s22 ⟨rfl,rfl⟩;obtain⟨q2,KC⟩:∃q2,q2=lV fr:=⟨_,rfl⟩;have hq3:(decide (2<=(fr:Int))&&decide ((fr:Int)<=2305843009213693949))=q2:=KC.symm;rw[hq3];cases q2 with
         |false=>
          obtain⟨r1,r2⟩:=S6 (hfb (by rw[Jh,<-KC]));refine jR hK ?_;clear hK K;refine jE ?_;refine jT fun K hK=>?_;refine hK _ _ (EW _ _ ?_);clear hK K EW K8;have e30:((30:Int) != 0)=true:=rfl;refine wK fun K8 EW=>?_;refine jB @e30 ?_;refine jE ?_;refine jB (Ai @g10 @FE) ?_;refine eF ?_;try simp only[dJ,dn]
          exact mq nP 30 r1 r2 _ _ (rk KB OC _) (AS.bG _ _ _) g10 rfl
         |true=>
          refine jR hK ?_;clear hK K;refine jF ?_;refine dX ?_;refine EW _ _ ?_;clear EW K8;refine wK fun K8 EW=>?_;refine jB @e01 ?_;refine jF ?_;refine dX ?_;refine EW _ _ ?_;clear EW K8;have tB:∀(E:Env)(s9:AS)(z':AV),E 23=.v (.int .i64 k)->E 22=.sl 1 RM.length (RM.map ed) .any->F E->s9.dD nP=some [.v (.int .u64 0),.v (.slice none 0 0),.v (.slice none 0 0),.v (.slice none 0 0),.v (.slice none 0 0),.v (.string .empty)]->s9.dD uj=some [.v (.int .u64 op),.v (.slice none 0 0),zP,.v (.slice none 0 0),zH,.v (.string .empty)]->s9.dD KR=some [.v (.int .u64 pk),z']->
            gA 2 s s9 zP i (eb ft.cells (eG t lf d ctx fresh i)) eW 0 []->gA 1 s s9 zK i ((eI d i).map iE) eW 0 []->gA 2 s s9 zH (i+1) (eb fa.cells (fg lf d P i)) H0 1 [.v (.int .i64 (2*lf:Nat)),.v (.int .u64 ok)]->gA 2 s s9 z' (k+1) (eb D8 (L.take (k+1))) eW 0 []->
            (∀t,eY z'=some t->eY zP≠some t)->(∀t,eY z'=some t->eY zK≠some t)->(∀t,eY z'=some t->eY zH≠some t)->s.le s9->K7 E s9:=by
           intro E s9 z' f23 f22 fF D5 Je ZO bP bK bH bS d1 d2 d3 Nl;refine v7 _ _ ?_;clear v7 K7;have SY:=fF;rw[hF] at SY;obtain⟨f18,f16,f15,f0,f1,f2,f3,f4,f10,f14,f17,f19,f20,f21⟩:=SY;refine jD (Ai @f23 (eK k (by omega))) ?_;refine⟨⟨k+1,z',sC,?_,rfl,f22,(by rw[hF];exact⟨f18,f16,f15,f0,f1,f2,f3,f4,f10,f14,f17,f19,f20,f21⟩),D5,Je,ZO,bP,bK,bH,bS,⟨d1,d2,d3⟩,Nl⟩,?_⟩
           ·intro j hj P8;by_cases e:j=k
            ·subst e;rw[Jh,<-KC]
            ·exact RV j hj (by omega)
           ·simp only[g23,dY,↓reduceIte];omega
          clear v7;have X6:eb D8 [⟨fr,tx⟩]=[.v (.int .u64 fr),.sl 1 tx.length (tx.map cU) .no]:=rfl;rcases kS' with⟨rfl,lu,F7⟩|⟨tk,ek,rfl,Jj,mg⟩
          ·refine wE fun K hK=>?_;simp only[↓DN,Qa,Qb,Qc,Qd,Qe,Qf,Qg,Qh,reduceCtorEq,↓reduceIte,Na,Nb,Nc,Nk,Nf,Ng,Nh,Za,Zb,Zc,TT,g21,Yc,eW,nw];intro tk uM;have D3:=eC KB uM;have fP:=kP.fresh rfl uM;have fK:=kK.fresh rfl uM;have fH:=kH.fresh (by rw[SW];rfl) uM;refine hK _ _ (tB _ _ (.sl 2 1 [.v (.int .u64 fr),.sl 1 tx.length (tx.map cU) .no] (.own tk 0)) g23 g22 (by rw[hF];exact⟨g18,g16,g15,g0,g1,g2,g3,g4,g10,g14,g17,g19,g20,g21⟩) ?_ ?_ (AS.bG _ _ _) (kP.oB fP) (kK.oB fK) (kH.oB fH) ?_ ?_ ?_ ?_ (AS.dW (AS.eE KB D3 0) s21 _))
           ·rw[AS.cO _ (Ne.symm n10)];exact FE
           ·rw[AS.cO _ (Ne.symm n14)];exact KT
           ·rw[ir,kQ,X6,F7,show k=0 by omega];exact gA.new D3 (by simp[AS.eT,AS.set])
           ·exact ni fP
           ·exact ni fK
           ·exact ni fH
          ·refine jU (Ai @g21 (Ai @Yc (Ai @Jj @nw))) fun K hK=>?_;have fP:eY zP≠some tk:=dSP _ rfl;have fK:eY zK≠some tk:=dSK _ rfl;have fH:eY zH≠some tk:=dSH _ rfl;refine⟨by omega,by omega,hK _ _ (tB _ _ (.sl 2 (k+1) (eb D8 (L.take k)++[.v (.int .u64 fr),.sl 1 tx.length (tx.map cU) .no]) (.own tk (ek+1))) g23 g22 (by rw[hF];exact⟨g18,g16,g15,g0,g1,g2,g3,g4,g10,g14,g17,g19,g20,g21⟩) ?_ ?_ (AS.bG _ _ _) (kP.oB fP) (kK.oB fK) (kH.oB fH) ?_ ?_ ?_ ?_ (AS.dW (AS.eE KB mg (ek+1)) s21 _))⟩
           ·rw[AS.cO _ (Ne.symm n10)];exact FE
           ·rw[AS.cO _ (Ne.symm n14)];exact KT
           ·rw[ir,kQ,X6];exact gA.new mg (by simp[AS.eT,AS.set])
           ·exact ni fP
           ·exact ni fK
           ·exact ni fH
        ·obtain rfl:k=RM.length:=(by omega);have pB:¬((RM.length:Nat):Int)<((RM.length:Nat):Int):=(by omega);have hTk:L.take RM.length=L:=(by rw[<-XX];exact List.take_length ..);rw[hTk] at kS';have Jh:=xgB (ZL hq.symm (fun j h=>RV j h h));refine qB (AS.oK Yc (.cons (AV.dV.refl _) (.cons (AV.dV.trans (kS'.dV AV.eh) (AV.vk (D9 L))) .nil))) ?_;have D5:=(AS.cO ZM (Ne.symm n10) [.v (.int .u64 pk),.sl 2 RM.length (eb gg.cells L) .any]).trans FE;have Je:=(AS.cO ZM (Ne.symm n14) [.v (.int .u64 pk),.sl 2 RM.length (eb gg.cells L) .any]).trans KT;have ZO:=AS.bG ZM KR [.v (.int .u64 pk),.sl 2 RM.length (eb gg.cells L) .any];have Nl:=AS.dW KB s21 [.v (.int .u64 pk),.sl 2 RM.length (eb gg.cells L) .any];have jP:gA 2 s (ZM.set KR [.v (.int .u64 pk),.sl 2 RM.length (eb gg.cells L) .any]) zP i (eb ft.cells (eG t lf d ctx fresh i)) eW 0 []:=kP.keep fun t _=>rfl;have jK:gA 1 s (ZM.set KR [.v (.int .u64 pk),.sl 2 RM.length (eb gg.cells L) .any]) zK i ((eI d i).map iE) eW 0 []:=kK.keep fun t _=>rfl;have jH:gA 2 s (ZM.set KR [.v (.int .u64 pk),.sl 2 RM.length (eb gg.cells L) .any]) zH (i+1) (eb fa.cells (fg lf d P i)) H0 1 [.v (.int .i64 (2*lf:Nat)),.v (.int .u64 ok)]:=kH.keep fun t _=>rfl;generalize ZM.set KR [.v (.int .u64 pk),.sl 2 RM.length (eb gg.cells L) .any]=s20 at *
         clear FE KT Yc KB kP kK kH kS' dSP dSK dSH RV ZK ZL Zy hmR;refine jB (Ai @g23 (Ai @g22 (decide_eq_false pB))) ?_;refine jF ?_;refine ep ?_;simp only[dJ,dn,if_true];refine mE _ _ ?_;clear mE K5 ll K6 fF hF;have SX:eY H0=none:=(by rw[SW];rfl);have KE:∀(L:List Nat)(x:Nat),(L++[x]).map iE=L.map iE++[.v (.int .u64 (x:Nat))]:=(fun L x=>by simp[iE]);have X6:eb ft.cells [⟨pk,L⟩]=[.v (.int .u64 pk),.sl 2 RM.length (eb gg.cells L) .any]:=(by rw[<-XX];rfl);have hHc:∀x:Nat,eb fa.cells [⟨x,ky⟩]=[.v (.int .i64 x),.v (.int .u64 ky)]:=fun x=>rfl;generalize eb gg.cells L=SL at *
         generalize RM.length=rl at *
         have V6:nP≠uj:=Ne.symm gP;have V7:s.dD uj=none:=xcq;obtain⟨Q,hQ⟩:∃Q:Env->Prop,Q=fun E=>E 18=.v (.int .i64 i)∧E 16=.sl 1 P.length (U.map ed) .any∧E 15=.v (.int .i64 (ee t))∧E 0=.sl 5 t.length X .any∧E 1=.v (.int .i64 lf)∧E 2=.v (.string ⟨d.toArray⟩)∧E 3=.v (.string ⟨ctx.toArray⟩)∧E 4=.sl 1 fresh.length (fresh.map ed) .any∧E 10=.ptr nP 0∧E 14=.ptr uj 0:=⟨_,rfl⟩;have V3:∀(E:Env)(s7:AS)(zP zK zH:AV),Q E->E 17=zK->s7.dD nP=some [.v (.int .u64 0),.v (.slice none 0 0),.v (.slice none 0 0),.v (.slice none 0 0),.v (.slice none 0 0),.v (.string .empty)]->s7.dD uj=some [.v (.int .u64 op),.v (.slice none 0 0),zP,.v (.slice none 0 0),zH,.v (.string .empty)]->gA 2 s s7 zP (i+1) (eb ft.cells (eG t lf d ctx fresh (i+1))) eW 0 []->gA 1 s s7 zK (i+1) ((eI d (i+1)).map iE) eW 0 []->gA 2 s s7 zH (i+1+1) (eb fa.cells (fg lf d P (i+1))) H0 1 [.v (.int .i64 (2*lf:Nat)),.v (.int .u64 ok)]->
           (∀t,eY zP=some t->eY zK≠some t)->(∀t,eY zP=some t->eY zH≠some t)->(∀t,eY zK=some t->eY zH≠some t)->s.le s7->K3 E s7:=by
          intro E s7 zP zK zH fQ f17 xP KU Ie Nr Ns x1 x2 x3 Ig;rw[hQ] at fQ;obtain⟨f18,f16,f15,f0,f1,f2,f3,f4,f10,f14⟩:=fQ;refine eX _ _ ?_;clear eX K3;refine jD (Ai @f18 (eK i (by omega))) ?_;refine⟨⟨i+1,zP,zK,zH,et,?_,⟨rfl,f16,f15,f0,f1,f2,f3,f4,f10,f14⟩,f17,xP,KU,Ie,Nr,Ns,x1,x2,x3,Ig⟩,?_⟩
          ·intro j hj;by_cases e:j=i
           ·subst e;exact Jh
           ·exact Jg j (by omega)
          ·simp only[gE1,dY,↓reduceIte];omega
         clear eX;refine wK fun K5 mE=>?_;have hJ5:∀(E:Env)(s5:AS)(zP:AV),Q E->E 17=zK->E 20=.v (.int .u64 ky)->E 21=.ptr KR 0->s5.dD nP=some [.v (.int .u64 0),.v (.slice none 0 0),.v (.slice none 0 0),.v (.slice none 0 0),.v (.slice none 0 0),.v (.string .empty)]->s5.dD uj=some [.v (.int .u64 op),.v (.slice none 0 0),zP,.v (.slice none 0 0),zH,.v (.string .empty)]->s5.dD KR=some [.v (.int .u64 pk),.sl 2 rl SL .any]->gA 2 s s5 zP (i+1) (eb ft.cells (eG t lf d ctx fresh (i+1))) eW 0 []->gA 1 s s5 zK i ((eI d i).map iE) eW 0 []->gA 2 s s5 zH (i+1) (eb fa.cells (fg lf d P i)) H0 1 [.v (.int .i64 (2*lf:Nat)),.v (.int .u64 ok)]->
           (∀t,eY zP=some t->eY zK≠some t)->(∀t,eY zP=some t->eY zH≠some t)->(∀t,eY zK=some t->eY zH≠some t)->s.le s5->K5 E s5:=by
          intro E s5 zP fQ f17 f20 f21 xP KU xcu Ie Nr Ns x1 x2 x3 Ig;refine mE _ _ ?_;clear mE K5;clear jP jK jH Je D5 ZO;refine wK fun K6 ll=>?_;have hJ6:∀(E:Env)(s6:AS)(zK:AV),Q E->E 17=zK->E 20=.v (.int .u64 ky)->s6.dD nP=some [.v (.int .u64 0),.v (.slice none 0 0),.v (.slice none 0 0),.v (.slice none 0 0),.v (.slice none 0 0),.v (.string .empty)]->s6.dD uj=some [.v (.int .u64 op),.v (.slice none 0 0),zP,.v (.slice none 0 0),zH,.v (.string .empty)]->gA 2 s s6 zP (i+1) (eb ft.cells (eG t lf d ctx fresh (i+1))) eW 0 []->gA 1 s s6 zK (i+1) ((eI d (i+1)).map iE) eW 0 []->gA 2 s s6 zH (i+1) (eb fa.cells (fg lf d P i)) H0 1 [.v (.int .i64 (2*lf:Nat)),.v (.int .u64 ok)]->
            (∀t,eY zP=some t->eY zK≠some t)->(∀t,eY zP=some t->eY zH≠some t)->(∀t,eY zK=some t->eY zH≠some t)->s.le s6->K6 E s6:=by
           intro E s6 zK fQ f17 f20 xP KU Ie Nr Ns x1 x2 x3 Ig;refine ll _ _ ?_;clear ll K6;have fQ':=fQ;rw[hQ] at fQ';obtain⟨f18,f16,f15,f0,f1,f2,f3,f4,f10,f14⟩:=fQ';rcases Ns with⟨rfl,lu,F7⟩|⟨tk,ek,rfl,Jj,mg⟩
           ·rw[SW] at KU;refine iw T.mixed [1,9,11] (by kernel_rfl) ?_;intro K hK;refine jN (Ai @f14 (Ai @KU (Ai @f16 (Ai @f18 (Ai @f20 (Ai @fB (Ai @gC (Ai @UT @nw)))))))) ?_;intro tk ir;have D3:=eC Ig ir;have fP:=Ie.fresh rfl ir;have fK:=Nr.fresh rfl ir;refine hK _ _ (V3 _ _ zP zK (.sl 2 2 [.v (.int .i64 (2*lf:Nat)),.v (.int .u64 ok),.v (.int .i64 (P.getD i 0:Nat)),.v (.int .u64 ky)] (.own tk 0)) (by rw[hQ];exact⟨f18,f16,f15,f0,f1,f2,f3,f4,f10,f14⟩) f17 (by rw[AS.cO _ V6];exact xP) (AS.bG _ _ _) (Ie.oB fP) (Nr.oB fK) (by
             rw[LY,kQ,hHc,F7,show i=0 by omega];exact gA.new D3 (by simp[AS.eT,AS.set])) x1 (wg fP) (wg fK) (AS.dW (AS.eE Ig D3 0) V7 _))
           ·refine iw T.mixed [1,9,11] (by kernel_rfl) ?_;intro K hK;refine jN (Ai @f14 (Ai @KU (Ai @f16 (Ai @f18 (Ai @f20 (Ai @fB (Ai @gC (Ai @UT (Ai @nw @Jj))))))))) ?_;have fP:eY zP≠some tk:=fun q=>x2 _ q rfl;have fK:eY zK≠some tk:=fun q=>x3 _ q rfl;refine⟨by omega,by omega,hK _ _ (V3 _ _ zP zK (.sl 2 (i+1+1) (eb fa.cells (fg lf d P i)++[.v (.int .i64 (P.getD i 0:Nat)),.v (.int .u64 ky)]) (.own tk (ek+1))) (by rw[hQ];exact⟨f18,f16,f15,f0,f1,f2,f3,f4,f10,f14⟩) f17 (by rw[AS.cO _ V6];exact xP) (AS.bG _ _ _) (Ie.oB fP) (Nr.oB fK) (by
             rw[LY,kQ,hHc];exact gA.new mg (by simp[AS.eT,AS.set])) x1 (wg fP) (wg fK) (AS.dW (AS.eE Ig mg (ek+1)) V7 _))⟩
          have fQ':=fQ;rw[hQ] at fQ';obtain⟨f18,f16,f15,f0,f1,f2,f3,f4,f10,f14⟩:=fQ';clear V3;rcases Nr with⟨rfl,lu,F7⟩|⟨tk,ek,rfl,Jj,mg⟩
          ·refine wE fun K hK=>?_;simp only[↓DN,Qa,Qb,Qc,Qd,Qe,Qf,Qg,Qh,reduceCtorEq,↓reduceIte,Na,Nb,Nc,Nk,Nf,Ng,Nh,Za,Zb,Zc,TT,f17,f21,xcu,eW,List.replicate_succ];intro tk ir;have D3:=eC Ig ir;have fP:=Ie.fresh rfl ir;have fH:=Ns.fresh SX ir;refine hK _ _ (hJ6 _ _ (.sl 1 1 [.v (.int .u64 pk)] (.own tk 0)) (by rw[hQ];exact⟨f18,f16,f15,f0,f1,f2,f3,f4,f10,f14⟩) rfl f20 xP KU (Ie.eT fP) ?_ (Ns.eT fH) (wg fP) x2 (ni fH) (AS.eE Ig D3 0));rw[oq,KE,F7,show i=0 by omega];exact gA.new D3 (by simp[AS.eT])
          ·refine wE fun K hK=>?_;simp only[↓DN,Qa,Qb,Qc,Qd,Qe,Qf,Qg,Qh,reduceCtorEq,↓reduceIte,Na,Nb,Nc,Nk,Nf,Ng,Nh,Za,Zb,Zc,TT,f17,f21,xcu,Jj,List.replicate_succ];have fP:eY zP≠some tk:=fun q=>x1 _ q rfl;have fH:eY zH≠some tk:=x3 _ rfl;refine⟨by omega,by omega,hK _ _ (hJ6 _ _ (.sl 1 (i+1) ((eI d i).map iE++[.v (.int .u64 pk)]) (.own tk (ek+1))) (by rw[hQ];exact⟨f18,f16,f15,f0,f1,f2,f3,f4,f10,f14⟩) rfl f20 xP KU (Ie.eT fP) ?_ (Ns.eT fH) (wg fP) x2 (ni fH) (AS.eE Ig mg (ek+1)))⟩;rw[oq,KE];exact gA.new mg (by simp[AS.eT])
         clear V3;rcases jP with⟨rfl,lu,F7⟩|⟨tk,ek,rfl,Jj,mg⟩
         ·refine wE fun K hK=>?_;simp only[↓DN,Qa,Qb,Qc,Qd,Qe,Qf,Qg,Qh,reduceCtorEq,↓reduceIte,Na,Nb,Nc,Nk,Nf,Ng,Nh,Za,Zb,Zc,TT,g14,Je,g21,ZO,eW,nw];intro tk ir;have D3:=eC Nl ir;have fK:=jK.fresh rfl ir;have fH:=jH.fresh SX ir;refine hK _ _ (hJ5 _ _ (.sl 2 1 [.v (.int .u64 pk),.sl 2 rl SL .any] (.own tk 0)) (by rw[hQ];exact⟨g18,g16,g15,g0,g1,g2,g3,g4,g10,g14⟩) g17 g20 g21 ?_ (AS.bG _ _ _) ?_ ?_ (jK.oB fK) (jH.oB fH) (ni fK) (ni fH) dKH (AS.dW (AS.eE Nl D3 0) V7 _))
          ·rw[AS.cO _ V6];exact D5
          ·rw[AS.cO _ n14];exact ZO
          ·rw[lA,kQ,X6,F7,show i=0 by omega];exact gA.new D3 (by simp[AS.eT,AS.set])
         ·refine jU (Ai @g14 (Ai @Je (Ai @g21 (Ai @ZO (Ai @Jj @nw))))) fun K hK=>?_;have fK:eY zK≠some tk:=dPK _ rfl;have fH:eY zH≠some tk:=dPH _ rfl;refine⟨by omega,by omega,hK _ _ (hJ5 _ _ (.sl 2 (i+1) (eb ft.cells (eG t lf d ctx fresh i)++[.v (.int .u64 pk),.sl 2 rl SL .any]) (.own tk (ek+1))) (by rw[hQ];exact⟨g18,g16,g15,g0,g1,g2,g3,g4,g10,g14⟩) g17 g20 g21 ?_ (AS.bG _ _ _) ?_ ?_ (jK.oB fK) (jH.oB fH) (ni fK) (ni fH) dKH (AS.dW (AS.eE Nl mg (ek+1)) V7 _))⟩
          ·rw[AS.cO _ V6];exact D5
          ·rw[AS.cO _ n14];exact ZO
          ·rw[lA,kQ,X6];exact gA.new mg (by simp[AS.eT,AS.set])
     ·have fB:¬((i:Nat):Int)<((P.length:Nat):Int):=(by omega);obtain rfl:i=P.length:=(by omega);have hG:pD t lf d fresh P.length=true:=by
       unfold pD;rw[List.all_eq_true];intro j hj;exact Jg j (List.mem_range.1 hj)
      rw[if_neg (by rw[hG];decide)] at hR;have sD:=qo d P.length;have LC:=zq hG;have Yb:∀k∈eI d P.length,k<2^64:=fun k hk=>by
       have:=(rh.1 (LC k hk)).2;omega
      have UU:(eG t lf d ctx fresh P.length).length=P.length:=(by simp[eG]);have hHl:(fg lf d P P.length).length=P.length+1:=(by simp[fg]);have hWE:iK t lf op (eI d P.length) fresh=r7 t lf op (eI d P.length) fresh:=Oz LC (by rw[ZE,sD];exact Nat.le_refl _);have hMU:rm t lf d fresh=iK t lf op (eI d P.length) fresh:=(by unfold rm;rw[ZE,<-lJ]);have SZ:R1=kY t lf d ctx fresh∧R2=0:=⟨congrArg (·.1) hR,congrArg (·.2) hR⟩;have hMV:kY t lf d ctx fresh=⟨⟨op,(nd (iK t lf op (eI d P.length) fresh) (2*lf)).parent,eG t lf d ctx fresh P.length⟩,iK t lf op (eI d P.length) fresh,fg lf d P P.length,fw d (P.length+1)⟩:=by
       unfold kY;rw[hMU,ZE,<-lJ]
      rw[hMV] at SZ;have c2:=fun s=>mj P.length (by omega) s;obtain⟨u,hu⟩:∃u,u=iK t lf op (eI d P.length) fresh:=⟨_,rfl⟩;have hwt:=fun s=>dS.mB (.cons (.refl _) (.cons (.refl _) (.cons (.refl _) (.cons (bK.dV AV.eh) (.cons (.refl _) .nil))))) (by
       have:=Gy (eI d P.length) sD Yb s;rw[<-hWE,<-hu] at this;unfold zk eA ea at this;rw[hXe,sD] at this;exact this)
      rw[<-hu] at SZ;have hul:u.length=t.length:=(by rw[hu];unfold iK;simp only[List.length_set];exact lW ..);have hut:2*lf<u.length:=(by omega);have gO:=gL hut;have rK:(0:Int)<=((2*lf:Nat):Int):=(by omega);have pB:((2*lf:Nat):Int)<((u.length:Nat):Int):=(by omega);clear Gy hMU hMV hWE iz KP hUg mj Ya X9 Jg LC Yb hG;generalize hZ:eb cH.cells u=Z at *
      generalize nd u (2*lf)=N at *
      obtain⟨n1,n2,n3,n4,n5⟩:=N;unfold cH.cells at gO;unfold dm at gO;simp only at SZ;refine jB (Ai @g18 (Ai @g16 (decide_eq_false fB))) ?_;refine jF ?_;refine ep ?_;simp only[dJ,dn,if_true];refine hK _ _ ?_;clear hK K eH K2;refine jS (Ai @g0 (Ai @g1 (Ai @g14 (Ai @Je (Ai @g17 @g4))))) fun K hK=>?_;refine b6 (hwt _) ?_;rintro r X5 ⟨rfl,rfl⟩;refine jV (Ai @g14 @Je) hK ?_;clear hK K;refine jB (Ai @g14 (Ai @AS.bG (Ai @g1 (Ai (fp lf (by omega)) (Ai @rK (Ai @pB @gO)))))) ?_;refine jS (Ai @g2 @g16) fun K hK=>?_;refine b6 (c2 _) ?_;rintro r s13 ⟨rfl,rfl⟩;refine jV (Ai @g14 @AS.bG) hK ?_;clear hK K;have xbk:=AS.dW hle xcq [.v (.int .u64 op),.sl 1 n4.length (n4.map cU) .any,zP,.sl 5 u.length Z .any,zH,.v (.string ⟨(fw d (P.length+1)).toArray⟩)];have l10:(X5.set uj [.v (.int .u64 op),.sl 1 n4.length (n4.map cU) .any,zP,.sl 5 u.length Z .any,zH,.v (.string ⟨(fw d (P.length+1)).toArray⟩)]).dD nP=some [.v (.int .u64 0),.v (.slice none 0 0),.v (.slice none 0 0),.v (.slice none 0 0),.v (.slice none 0 0),.v (.string .empty)]:=by
       rw[AS.cO _ (Ne.symm gP)];exact D5
      have wH:=bH.dV (by rw[SW];exact AV.fc);have wP:=bP.dV AV.eh;have fu:∀(E:Env),E 10=.ptr nP 0->E 11=.v (.int .i64 0)->fX prog (#[ResultVar.cell 10 38,ResultVar.tmp 11]:Array ResultVar).toList (fun r s'=>r=vG R1 R2∧s'=s) .ret E ((X5.set uj [.v (.int .u64 op),.sl 1 n4.length (n4.map cU) .any,zP,.sl 5 u.length Z .any,zH,.v (.string ⟨(fw d (P.length+1)).toArray⟩)]).set nP [.v (.int .u64 op),.sl 1 n4.length (n4.map cU) .any,zP,.sl 5 u.length Z .any,zH,.v (.string ⟨(fw d (P.length+1)).toArray⟩)]):=by
       intro E f10 f11;refine kn (o:=nP) (off:=0) f10 (AS.bG _ _ _) (by rw[T.c38];decide) (by simp only[↓DN,Qa,Qb,Qc,Qd,Qe,Qf,Qg,Qh,reduceCtorEq,↓reduceIte,Na,Nb,Nc,Nk,Nf,Ng,Nh,Za,Zb,Zc,TT];rfl) ?_;rw[f11,SZ.1,SZ.2];unfold vG eA lT dm;simp only;rw[UU,hHl,hZ];exact⟨_,s,AV.gJ (AV.qS (.cons (AV.dV.refl _) (.cons (AV.dV.refl _) (.cons wP (.cons (AV.dV.refl _) (.cons wH (.cons (AV.dV.refl _) .nil))))))) (AV.dV.refl _),AS.dW xbk OC _,rfl,rfl⟩
      refine jS (Ai @g14 (Ai @AS.bG (Ai @g10 @l10))) fun K hK=>?_;refine⟨Bool.and_eq_true_iff.2 ⟨bP.one rfl,bH.one (by rw[SW];rfl)⟩,?_⟩;refine hK _ _ ?_;clear hK K;refine eF ?_;try simp only[dJ,dn]
      exact fu _ g10 rfl
  ·have e2:((d.length:Int) != 32)=true:=by
    rw[bne_iff_ne];omega
   rw[if_pos ye] at hR;refine jB @e2 ?_;refine jE ?_;refine jB @OD ?_;refine eF ?_;try simp only[dJ,dn]
   exact mq nP 2 (congrArg (·.1) hR) (congrArg (·.2) hR) _ _ (rk hle OC _) (AS.bG _ _ _) rfl rfl
 ·have e0:(qn t leaf != 0)=true:=(by simp[he]);rw[if_pos he] at hR;refine jB @e0 ?_;refine jE ?_;refine jB @OD ?_;refine eF ?_;try simp only[dJ,dn]
  exact mq nP _ (congrArg (·.1) hR) (congrArg (·.2) hR) _ _ (rk hle OC _) (AS.bG _ _ _) rfl rfl
theorem V8{t:List cH}{leaf:Int}{d ctx:List UInt8}{fresh:List Int}(h:(jy t leaf d ctx fresh).2≠0):(jy t leaf d ctx fresh).1=p7.no:=by
 unfold jy at h⊢;split
 ·rfl
 ·rename_i h1;rw[if_neg h1] at h;split
  ·rfl
  ·rename_i h2;rw[if_neg h2] at h;split
   ·rfl
   ·rename_i h3;rw[if_neg h3] at h;split
    ·rfl
    ·rename_i h4;rw[if_neg h4] at h;exact absurd rfl h
theorem NC{n:Nat}(h:lV n=true):n<2^64:=by
 have:=(rh.1 h).2;omega
theorem S8{t:List cH}{d ctx:List UInt8}{i:Nat}{RT:List Int}(h:stepG d i RT=true)(hl:RT.length<=maxLen):(kB t d ctx i RT).wf:=by
 have e:kB t d ctx i RT=⟨od (fw d (i+1)),RT.map fun n=>rj t d ctx i n.toNat⟩:=(by unfold kB;exact Eq.refl _);rw[e];refine⟨NC (AO h),?_,by simp only[List.length_map];exact hl⟩;intro x hx;obtain⟨n,hn,rfl⟩:=bF.1 hx;unfold stepG at h;rw[Bool.and_eq_true] at h;have h2:=aw.1 h.2 n hn;have hs:rj t d ctx i n.toNat=⟨jv (ji d i n.toNat),jx (nd t n.toNat).key jc ctx (fw d (i+1)) (ji d i n.toNat)⟩:=Eq.refl _;rw[hs];exact NC h2
theorem S9{t:List cH}(hr:eJ t){lf:Nat}{fresh:List Int}(hf:fresh.length<=2^20)(i:Nat):(kt t lf fresh i).length<=maxLen:=by
 unfold kt ff maxLen;split
 ·have h1:=mZ hr fresh (lv (fE (nodeAt lf (ee t) i):Int).toNat) (fE (nodeAt lf (ee t) i):Int).toNat;have h2:=rW (fE (nodeAt lf (ee t) i):Int).toNat;have h3:=Nat.pow_le_pow_right (show 0<2 by decide) h2;omega
 ·exact Nat.zero_le _
theorem V9{t:List cH}{leaf:Int}{d ctx:List UInt8}{fresh:List Int}(hf:fresh.length<=2^20):
  (jy t leaf d ctx fresh).1.p.wf∧(jy t leaf d ctx fresh).1.p.steps.length<=2^40∧iD (jy t leaf d ctx fresh).1.t∧(jy t leaf d ctx fresh).1.held.length<=2^60∧
  ((jy t leaf d ctx fresh).2=0->sA t leaf (jy t leaf d ctx fresh).1.p fresh=((jy t leaf d ctx fresh).1.t,0)∧eJ (jy t leaf d ctx fresh).1.t):=by
 by_cases h:(jy t leaf d ctx fresh).2=0
 ·obtain⟨h1,h2,h3,h4,h5⟩:=zl h;obtain⟨hr,hm⟩:=oR.1 h1;obtain⟨lf,rfl⟩:=Int.eq_ofNat_of_zero_le hm.1;have hu:=(S5 h).1;have ha:=D7 h;rw[Int.toNat_natCast] at h4 h5;obtain⟨fN,nD⟩:Fit (ee t)∧t.length=2*ee t-1:=by
   rcases fA (t:=t) with h|h
   ·exact absurd h hr.1
   ·exact h
  have kS:lf<ee t:=by
   have:=fN.le;have:=hm.2.1;omega
  have Cu:=kV fN kS;rw[h5];have wY:(eG t lf d ctx fresh (dR lf (ee t)).length).length=(dR lf (ee t)).length:=(by simp[eG]);refine⟨⟨NC h3,?_,?_⟩,?_,Ny hu,?_,fun _=>⟨ha,hu⟩⟩
  ·intro x hx;have UG:x∈eG t lf d ctx fresh (dR lf (ee t)).length:=hx;simp only[eG,bF,bx] at UG;obtain⟨i,hi,rfl⟩:=UG;unfold pD at h4;exact S8 (aw.1 h4 i (bx.2 hi)) (S9 hr hf i)
  ·show(eG t lf d ctx fresh (dR lf (ee t)).length).length<=maxLen;unfold maxLen;omega
  ·show(eG t lf d ctx fresh (dR lf (ee t)).length).length<=2^40;omega
  ·show(fg lf d (dR lf (ee t)) (dR lf (ee t)).length).length<=2^60;have :(fg lf d (dR lf (ee t)) (dR lf (ee t)).length).length=(dR lf (ee t)).length+1:=(by simp[fg]);omega
 ·have e:p7.no=⟨⟨0,[],[]⟩,[],[],[]⟩:=rfl;rw[V8 h,e];exact⟨⟨dM,(fun x hx=>by cases hx),dM⟩,dM,⟨dM,(fun x hx=>by cases hx)⟩,dM,fun k=>absurd k h⟩
theorem B8(jg:Γ 0=jZ Sha.H0)(mC:Γ 1=Sha.K.map wV)(hG:Γ 3=lQ.map uU)(c:uv)(hk:∀n∈c.t,n.key<2^64)(s:AS):
  dS prog Γ 3 [.agg c.cells] s (fun r s'=>r=.v (.bool true)):=by
 refine xH func3 ntmps3 results3 ?_;have haw:=fun s=>FG (Γ:=Γ) jg mC hG s;have BO:=fun s=>FH (Γ:=Γ) c s;have JS:=fun(h:c.small)s=>zh (Γ:=Γ) jg mC hG c.t (h.wide hk).1 (h.wide hk).2.1 (h.wide hk).2.2 c.leaf c.draw c.ctx (by have:=h.2.1;omega) (by have:=h.2.2.1;omega) c.fresh (by have:=h.2.2.2.1;omega) s;have hrm:=fun(h:c.small)s=>Cf (Γ:=Γ) jg mC c.t (h.wide hk).1 (h.wide hk).2.1 c.leaf c.draw c.ctx (by have:=h.2.1;omega) (by have:=h.2.2.1;omega) c.fresh (by have:=h.2.2.2.1;omega) s;have hwf:=fun(h:c.small)=>V9 (t:=c.t) (leaf:=c.leaf) (d:=c.draw) (ctx:=c.ctx) (fresh:=c.fresh) (by have:=h.2.2.2.1;omega);have nG:=fun(h:c.small)(p:ia)(hp:p.steps.length<=2^40)s=>xa (Γ:=Γ) jg mC hG c.t (h.wide hk).1 (h.wide hk).2.1 (h.wide hk).2.2 c.leaf p hp c.fresh (by have:=h.2.2.2.1;omega) s;generalize jy c.t c.leaf c.draw c.ctx c.fresh=M at *
 obtain⟨m,e⟩:=M;obtain⟨t,leaf,own,draw,ctx,fresh⟩:=c;simp only at JS hrm hwf nG;have Jf:(uv.mk t leaf own draw ctx fresh).cells=[eA t,.v (.int .i64 leaf),.v (.int .i64 own),dm draw .any,dm ctx .any,ea fresh .any]:=rfl;rw[Jf] at BO⊢;have uY:=fun(hw:m.p.wf)s=>Ij (Γ:=Γ) m.p m.p hw s;have np:=fun(hw:iD m.t)s=>Ik (Γ:=Γ) m.t m.t hw s;have LZ:=fun(hw:m.held.length<=2^60)s=>Ii (Γ:=Γ) m.held m.held hw s;have zY:=fun(hw:iD m.t)s=>sU (Γ:=Γ) m.t hw s;have xcw:=fun h hp s=>nG h m.p hp s;clear nG;generalize hQ:sA t leaf m.p fresh=Q at *
 obtain⟨q,g⟩:=Q;obtain⟨⟨pk,pp,ps⟩,u,hd,com⟩:=m;rw[dT rfl] at uY np LZ;unfold D4 at JS;unfold vG at hrm;unfold ia.cells at *
 simp only at JS hrm hwf uY np LZ zY xcw;unfold eA ea dm lT at *
 generalize eb cH.cells t=X at *
 generalize hY:eb cH.cells u=Y at *
 generalize ZH:eb cH.cells q=Y2 at *
 generalize eb ft.cells ps=Z at *
 generalize eb fa.cells hd=H at *
 have f1:(e != e)=false:=sM;refine ev 1 dM ?_;intro K hK;refine jM ?_;intro o ho;refine hK _ _ o _ rfl ho ?_;clear hK K ho;refine UK fun K hK K hK=>?_;refine b6 (haw _) ?_;rintro r s1 ⟨rfl,rfl⟩;refine jM ?_;refine b6 (BO _) ?_;rintro r s2 ⟨⟨v,rfl,hv⟩,rfl⟩;cases v with
 |false=>
  refine jR hK ?_;clear hK K;refine jE<|jK (haw _) ?_;rintro s3 rfl;refine jI ?_;exact⟨_,_,AV.dV.refl _,AS.le.refl _,rfl⟩
 |true=>
  have hs:=hv rfl;obtain⟨w1,w2,w3,w4,w5⟩:=hwf hs;have c1:=JS hs;have c2:=hrm hs;have c3:=uY w1;have c4:=np w3;have c5:=LZ w4;have c6:=xcw hs w2;have c7:=zY w3;refine jR hK ?_;clear hK K;refine gW ?_;refine hK _ _<|jQ fun K hK=>?_;refine b6 (c1 _) ?_;rintro r s3 ⟨rfl,rfl⟩;refine jM ?_;intro o3 q3;refine hK _ _ ?_;have j3:=AS.bG s3 o3 [.v (.int .u64 pk),.sl 1 pp.length (pp.map cU) .any,.sl 2 ps.length Z .any];generalize s3.set o3 [.v (.int .u64 pk),.sl 1 pp.length (pp.map cU) .any,.sl 2 ps.length Z .any]=s4 at *
  refine jS (Ai @lF @lG) fun K hK=>?_;refine b6 (c2 _) ?_;rintro r s5 ⟨rfl,rfl⟩;refine jM ?_;intro o8 q8;refine hK _ _ ?_;have gP:o8≠o3:=(fun k=>by subst k;rw[j3] at q8;cases q8);have k3:=(AS.cO s5 (Ne.symm gP) [.v (.int .u64 pk),.sl 1 pp.length (pp.map cU) .any,.sl 2 ps.length Z .any,.sl 5 u.length Y .any,.sl 2 hd.length H .any,.v (.string ⟨com.toArray⟩)]).trans j3;have k8:=AS.bG s5 o8 [.v (.int .u64 pk),.sl 1 pp.length (pp.map cU) .any,.sl 2 ps.length Z .any,.sl 5 u.length Y .any,.sl 2 hd.length H .any,.v (.string ⟨com.toArray⟩)];generalize s5.set o8 [.v (.int .u64 pk),.sl 1 pp.length (pp.map cU) .any,.sl 2 ps.length Z .any,.sl 5 u.length Y .any,.sl 2 hd.length H .any,.v (.string ⟨com.toArray⟩)]=s6 at *
  clear j3 q8;refine wK fun K hK=>jS (Ai @f1 (Ai @k3 @k8)) fun K hK=>?_;refine b6 (c3 _) ?_;rintro r s7 ⟨rfl,rfl⟩;refine jN @k8 ?_;refine b6 (c4 _) ?_;rintro r s8 ⟨rfl,rfl⟩;refine jN @k8 ?_;refine b6 (c5 _) ?_;rintro r s9 ⟨rfl,rfl⟩;refine jV (Ai @k8 (Ai @lF @lG)) hK ?_;clear hK K;refine gW ?_;refine hK _ _<|jS @k3 fun K hK=>?_;refine b6 (c6 _) ?_;rintro r Sj ⟨rfl,rfl⟩;refine jR hK ?_;by_cases he:e=0
  ·obtain⟨h1,h2⟩:=w5 he;have Ye:q=u:=congrArg (·.1) h1;have KC:g=0:=congrArg (·.2) h1;subst Ye KC he;rw[hY] at ZH;subst ZH;rw[dT h2] at c7;have f2:((0:Int) != 0)=false:=rfl;have f3:((0:Int)==0)=true:=rfl;refine jS (Ai @f2 (Ai @f3 @k8)) fun K hK=>?_;refine b6 (c4 _) ?_;rintro r Sv ⟨rfl,rfl⟩;refine jM ?_;refine b6 (c7 _) ?_;rintro r X5 ⟨rfl,rfl⟩;refine jR hK ?_;refine jI ?_;exact⟨_,_,AV.dV.refl _,AS.le.refl _,rfl⟩
  ·have f2:(e != 0)=true:=(by simp[he]);refine jB @f2 ?_;refine jI ?_;exact⟨_,_,AV.dV.refl _,AS.le.refl _,rfl⟩
abbrev ZP:Ty:=.slice 5 (.struct (.cons Hy (.cons I7 (.cons (.int .u64) (.cons I7 (.cons (.slice 1 Hy) .nil))))))
theorem PS{nA:List AV}(h:kI (.struct (.cons ZP (.cons Hy (.cons Hy (.cons I7 (.cons I7 (.cons (.slice 1 Hy) .nil))))))) nA):∃c:uv,nA=c.cells∧∀n∈c.t,n.key<2^64:=by
  obtain⟨x1,y1,rfl,t1,h⟩:=lN (Br h);obtain⟨x2,y2,rfl,t2,h⟩:=lN h;obtain⟨x3,y3,rfl,t3,h⟩:=lN h;obtain⟨x4,y4,rfl,t4,h⟩:=lN h;obtain⟨x5,y5,rfl,t5,h⟩:=lN h;obtain⟨x6,y6,rfl,t6,h⟩:=lN h;obtain rfl:=Oi h;obtain⟨t,rfl,hk⟩:=kI.tree t1;obtain⟨n2,rfl,_⟩:=ve t2;obtain⟨n3,rfl,_⟩:=ve t3;obtain⟨l4,rfl,_⟩:=t4.bytes;obtain⟨l5,rfl,_⟩:=t5.bytes;obtain⟨l6,rfl⟩:=t6.ints;exact⟨⟨t,n2,n3,l4,l5,l6⟩,rfl,hk⟩
def xcx:List Nat:=[0,1,28,2,29,14,24,3,30,22,20,15,25,17,4,8,31,27,13,23,21,19,16,7,26,12,18,6,11,5,10,9]
def Γd(g:Nat):List AV:=if g=0 then[wV Sha.H0.a,wV Sha.H0.b,wV Sha.H0.c,wV Sha.H0.d,wV Sha.H0.e,wV Sha.H0.f,wV Sha.H0.g,wV Sha.H0.h] else if g=1 then Sha.K.map wV else if g=2 then xcx.map uU else if g=3 then lQ.map uU else[]
abbrev J7 : List (String × DataW Unit):=[("math/bits.deBruijn32tab", Rows.laid_math_bits_deBruijn32tab),("math/bits.deBruijn64tab", Rows.laid_math_bits_deBruijn64tab),("engrosser/sha.rounds", Rows.laid_engrosser_sha_rounds),("engrosser/sha.start", Rows.laid_engrosser_sha_start)]
theorem qp{H:Type}{enc:TypeId×Value->H}{P:Program}{W:World}{base:Nat}{sp:Nat->Bool}{held:Bool}{fuel:Nat}{t e:TypeId}{n:Nat}{cs:List Value}{p:List MemPlace}{l:List Nat}{kd:IntKind}
    (hT:P.underlying t=some (.array n e)) (he:P.underlying e=some (.int kd)) (hc:P.cellsOf e=1)
    (h:DataW.trod enc P W base sp held fuel t cs=some (.agg (l.map fun(x:Nat)=>.lit (.int kd (x:Int))),p)):∀(i x:Nat),l[i]? =some x->cs[i]? =some (.int kd (x:Int)):=by
  obtain⟨xs,m,rfl,hx,hlen,hn,B3⟩:=DataW.trod_array hT h;simp only[Prod.mk.injEq,DataW.agg.injEq] at hx;intro i x hi;have h1:(l.map fun(x:Nat)=>DataW.lit (H:=H) (.int kd (x:Int)))[i]? =some (.lit (.int kd (x:Int))):=(by rw[aF,hi];rfl);rw[hx.1,aF] at h1;cases hy:xs[i]? with
  |none=>rw[hy] at h1;cases h1
  |some y=>
    rw[hy] at h1;simp only[b9,bq] at h1;have fB:=(List.getElem?_eq_some_iff.1 hy).1;have h2:=B3 i oM;rw[hy,hc,Nat.mul_one] at h2;obtain⟨k,e1,e2,_⟩:=DataW.trod_int he h2;rw[e2] at h1;simp only[DataW.lit.injEq,Lit.int.injEq,true_and] at h1;have h3:(List.take 1 (List.drop i cs))[0]? =some (.int kd k):=(by rw[e1];rfl);rw[List.getElem?_take,if_pos dM,List.getElem?_drop,Nat.add_zero,h1] at h3;exact h3
theorem Wb : prog.globalNamed "engrosser/sha.rounds" = some 1:=kM
theorem ZQ : prog.globalNamed "engrosser/sha.start" = some 0:=kM
theorem xgE : prog.globalNamed "math/bits.deBruijn32tab" = some 2:=kM
theorem xgF : prog.globalNamed "math/bits.deBruijn64tab" = some 3:=kM
theorem Wc:(prog.globals[1]?).map (·.type)=some 246:=kM
theorem ZR:(prog.globals[0]?).map (·.type)=some 215:=kM
theorem xgG:(prog.globals[2]?).map (·.type)=some 251:=kM
theorem xgH:(prog.globals[3]?).map (·.type)=some 232:=kM
theorem zt{kd:IntKind}{W:World}{g:Nat}{cs:Array Value}{l:List Nat}(hc:∀i,W.cell? ⟨g,i,none⟩=cs[i]?)(h:∀(i x:Nat),l[i]? =some x->cs.toList[i]? =some (.int kd (x:Int))):
    ∃vs,dP (G0 W) (l.map fun(x:Nat)=>.v (.int kd (x:Int))) vs∧mT (G0 W) g 0 vs:=by
  refine⟨l.map fun(x:Nat)=>.int kd (x:Int),?_,?_⟩
  · have:=dP.Jo (G:=G0 W) (l.map fun(x:Nat)=>Value.int kd (x:Int));rwa [List.map_map] at this
  · intro j u hu;rw[aF] at hu;cases hj:l[j]? with
    |none=>rw[hj] at hu;cases hu
    |some x=>
      rw[hj] at hu;simp only[b9,bq] at hu;have:=h j x hj;show W.cell? ⟨g,0+j,none⟩=some u;rw[Nat.zero_add,hc j,<-hu];simpa using this
theorem Vx{W:World}(h:laidMetH prog J7 W):∀g,∃vs,dP (G0 W) (Γd g) vs∧mT (G0 W) g 0 vs:=by
  rw[MakeChecks.laidMetH_plain _ _ _ kM] at h;obtain⟨ps,⟨g0,t0,cs0,f0,p0,q0,hg0,mg,Md,hd0,⟨g1,t1,LP,f1,p1,q1,hg1,Jj,hv1,RP,⟨g2,t2,LM,f2,p2,q2,Vv,VU,hv2,PJ,⟨g3,t3,cs3,f3,p3,q3,hg3,ht3,hv3,hd3,_,_⟩,_⟩,_⟩,_⟩,_,_⟩:=h;obtain rfl:=bC (xgE.symm.trans hg0);obtain rfl:=bC (xgF.symm.trans hg1);obtain rfl:=bC (Wb.symm.trans Vv);obtain rfl:=bC (ZQ.symm.trans hg3);obtain rfl:=bC (xgG.symm.trans mg);obtain rfl:=bC (xgH.symm.trans Jj);obtain rfl:=bC (Wc.symm.trans VU);obtain rfl:=bC (ZR.symm.trans ht3);have h2:=zt (World.var?_cell hg0 Md) (qp (l:=xcx) underlying251 underlying5 T.c5 hd0);have h3:=zt (World.var?_cell hg1 hv1) (qp (l:=lQ) underlying232 underlying5 T.c5 RP);have h1:=zt (World.var?_cell Vv hv2) (qp (l:=Sha.K) underlying246 underlying214 T.J8 PJ);have h0:=zt (World.var?_cell hg3 hv3) (qp (l:=Sha.H0.list) underlying215 underlying214 T.J8 hd3);intro g;by_cases e0:g=0
  · subst e0;exact h0
  · by_cases e1:g=1
    · subst e1;exact h1
    · by_cases e2:g=2
      · subst e2;exact h2
      · by_cases e3:g=3
        · subst e3;exact h3
        · refine⟨[],?_,fun j u h=>by simp at h⟩;simp[Γd,e0,e1,e2,e3,dP]
theorem R6(os:Os)(args:Array Value):laidMetH prog J7 ((World.doorLaid prog 400 os).forCall (fun _ _=>0) ⟨#[],args,[]⟩).memory:=by
  rw[MakeChecks.laidMetH_plain _ _ _ kM];exact laidMet_of_run' 8 kM kM
set_option maxRecDepth 100000
def xcz:List Char:=[aa 104,aa 97,aa 114,aa 110,aa 101,aa 115,aa 115,aa 32,aa 97,aa 57,aa 98,aa 52,aa 52,aa 102,aa 55,aa 102,aa 53,aa 55,aa 57,aa 98,aa 98,aa 48,aa 54,aa 101,aa 48,aa 101,aa 51,aa 51,aa 101,aa 98,aa 102,aa 102,aa 98,aa 48,aa 52,aa 54,aa 56,aa 100,aa 97,aa 54,aa 48,aa 98,aa 55,aa 57,aa 97,aa 55,aa 54,aa 57,aa 51,aa 100,aa 57,aa 51,aa 51,aa 50,aa 54,aa 97,aa 97,aa 97,aa 50,aa 57,aa 48,aa 97,aa 57,aa 56,aa 49,aa 51,aa 55,aa 102,aa 51,aa 49,aa 101,aa 50,aa 32,aa 99,aa 117,aa 116,aa 32,aa 97,aa 116,aa 32,aa 101,aa 110,aa 103,aa 114,aa 111,aa 115,aa 115,aa 101,aa 114,aa 47,aa 101,aa 110,aa 103,aa 114,aa 111,aa 115,aa 115,aa 101,aa 114,aa 108,aa 97,aa 119,aa 50,aa 49,aa 46,aa 80,aa 97,aa 116,aa 104,aa 77,aa 97,aa 107,aa 101,aa 115,aa 32,aa 101,aa 110,aa 103,aa 114,aa 111,aa 115,aa 115,aa 101,aa 114,aa 47,aa 101,aa 110,aa 103,aa 114,aa 111,aa 115,aa 115,aa 101,aa 114,aa 108,aa 97,aa 119,aa 50,aa 49,aa 46,aa 80,aa 97,aa 116,aa 104,aa 65,aa 112,aa 112,aa 108,aa 105,aa 101,aa 115,aa 32,aa 101,aa 110,aa 103,aa 114,aa 111,aa 115,aa 115,aa 101,aa 114,aa 47,aa 101,aa 110,aa 103,aa 114,aa 111,aa 115,aa 115,aa 101,aa 114,aa 108,aa 97,aa 119,aa 50,aa 49,aa 46,aa 80,aa 97,aa 116,aa 104,aa 76,aa 101,aa 97,aa 114,aa 110,aa 115,aa 32,aa 101,aa 110,aa 103,aa 114,aa 111,aa 115,aa 115,aa 101,aa 114,aa 47,aa 101,aa 110,aa 103,aa 114,aa 111,aa 115,aa 115,aa 101,aa 114,aa 108,aa 97,aa 119,aa 50,aa 49,aa 46,aa 80,aa 97,aa 116,aa 104,aa 69,aa 110,aa 116,aa 101,aa 114,aa 115,aa 32,aa 101,aa 110,aa 103,aa 114,aa 111,aa 115,aa 115,aa 101,aa 114,aa 47,aa 101,aa 110,aa 103,aa 114,aa 111,aa 115,aa 115,aa 101,aa 114,aa 108,aa 97,aa 119,aa 50,aa 49,aa 46,aa 80,aa 97,aa 116,aa 104,aa 82,aa 101,aa 97,aa 100,aa 115]
def AW:List (List Char):=[[aa 104,aa 97,aa 114,aa 110,aa 101,aa 115,aa 115],
  [aa 97,aa 57,aa 98,aa 52,aa 52,aa 102,aa 55,aa 102,aa 53,aa 55,aa 57,aa 98,aa 98,aa 48,aa 54,aa 101,aa 48,aa 101,aa 51,aa 51,aa 101,aa 98,aa 102,aa 102,aa 98,aa 48,aa 52,aa 54,aa 56,aa 100,aa 97,aa 54,aa 48,aa 98,aa 55,aa 57,aa 97,aa 55,aa 54,aa 57,aa 51,aa 100,aa 57,aa 51,aa 51,aa 50,aa 54,aa 97,aa 97,aa 97,aa 50,aa 57,aa 48,aa 97,aa 57,aa 56,aa 49,aa 51,aa 55,aa 102,aa 51,aa 49,aa 101,aa 50],
  [aa 99,aa 117,aa 116],
  [aa 97,aa 116],
  [aa 101,aa 110,aa 103,aa 114,aa 111,aa 115,aa 115,aa 101,aa 114,aa 47,aa 101,aa 110,aa 103,aa 114,aa 111,aa 115,aa 115,aa 101,aa 114,aa 108,aa 97,aa 119,aa 50,aa 49,aa 46,aa 80,aa 97,aa 116,aa 104,aa 77,aa 97,aa 107,aa 101,aa 115],
  [aa 101,aa 110,aa 103,aa 114,aa 111,aa 115,aa 115,aa 101,aa 114,aa 47,aa 101,aa 110,aa 103,aa 114,aa 111,aa 115,aa 115,aa 101,aa 114,aa 108,aa 97,aa 119,aa 50,aa 49,aa 46,aa 80,aa 97,aa 116,aa 104,aa 65,aa 112,aa 112,aa 108,aa 105,aa 101,aa 115],
  [aa 101,aa 110,aa 103,aa 114,aa 111,aa 115,aa 115,aa 101,aa 114,aa 47,aa 101,aa 110,aa 103,aa 114,aa 111,aa 115,aa 115,aa 101,aa 114,aa 108,aa 97,aa 119,aa 50,aa 49,aa 46,aa 80,aa 97,aa 116,aa 104,aa 76,aa 101,aa 97,aa 114,aa 110,aa 115],
  [aa 101,aa 110,aa 103,aa 114,aa 111,aa 115,aa 115,aa 101,aa 114,aa 47,aa 101,aa 110,aa 103,aa 114,aa 111,aa 115,aa 115,aa 101,aa 114,aa 108,aa 97,aa 119,aa 50,aa 49,aa 46,aa 80,aa 97,aa 116,aa 104,aa 69,aa 110,aa 116,aa 101,aa 114,aa 115],
  [aa 101,aa 110,aa 103,aa 114,aa 111,aa 115,aa 115,aa 101,aa 114,aa 47,aa 101,aa 110,aa 103,aa 114,aa 111,aa 115,aa 115,aa 101,aa 114,aa 108,aa 97,aa 119,aa 50,aa 49,aa 46,aa 80,aa 97,aa 116,aa 104,aa 82,aa 101,aa 97,aa 100,aa 115]]
theorem xcA:prog.initOrder=String.ofList xcz:=kM
theorem words:wordsSigns prog.initOrder.toList=AW:=by
  rw[xcA,String.toList_ofList];kernel_rfl
theorem both{a b:Bool}(h:a=true)(k:b=true):(a&&b)=true:=by rw[h,k];rfl
theorem Vz{a b:Bool}(h:b=a):(a==b)=true:=by rw[h];cases a<;>rfl
theorem VB{a b:Option Make}(h:a=b):(a==b)=true:=by rw[h];exact beq_self_eq_true _
theorem GG (r : List (List Char)) : stripLifts liftWords ("cut".toList :: r) = ([], "cut".toList :: r):=kM
theorem GH {P : Program} {r} (h : behindMainWord (wordsSigns P.initOrder.toList) = "cut".toList :: r) : P.headLifts = []:=by
  unfold Program.headLifts;rw[h,GG];kernel_rfl
theorem Ta {P : Program} {r} (h : behindMainWord (wordsSigns P.initOrder.toList) = "cut".toList :: r) : P.make = some .cut:=by
  unfold Program.make;rw[h,GH h];kernel_rfl
theorem Qo {P : Program} {r} (h : behindMainWord (wordsSigns P.initOrder.toList) = "cut".toList :: r) : P.liftsFinal = false:=by
  unfold Program.liftsFinal;rw[h,GH h];kernel_rfl
theorem Tb {P : Program} {s r} (h : wordsSigns P.initOrder.toList = "harness".toList :: s :: r) (hs : isSumSigns s = true) : P.mainIs = some (true,s):=by
  unfold Program.mainIs;rw[h];dsimp only;rw[hs];kernel_rfl
theorem Wd {P : Program} {r} (h : behindMainWord (wordsSigns P.initOrder.toList) = "cut".toList :: r) (hl : P.laysLater = false) (hr : P.bearsReflect = false) (hd : P.doorFits [] = true) : P.mayEnter = true:=by
  unfold Program.mayEnter;rw[h,hl,hr];dsimp only;rw[GG];dsimp only;rw[hd];kernel_rfl
theorem behind : behindMainWord (wordsSigns prog.initOrder.toList) = "cut".toList :: AW.drop 3:=(congrArg behindMainWord words).trans kM
theorem R7:prog.make=some .cut:=Ta behind
theorem R8 : prog.mainIs = some (true, "a9b44f7f579bb06e0e33ebffb0468da60b79a7693d93326aaa290a98137f31e2".toList):=Tb (r:=AW.drop 2) (words.trans kM) kM
theorem Vy:prog.mayEnter=true:=Wd behind kM kM kM
theorem VA:prog.liftsFinal=false:=Qo behind
end Go.Proofs.YtbiefppedlodiaaGreatDoor
