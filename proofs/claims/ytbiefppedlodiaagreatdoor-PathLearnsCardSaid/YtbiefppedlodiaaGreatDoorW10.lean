/- Contracts of functions, each walked once; each theorem states its conditions. -/
import Derived.Test.YtbiefppedlodiaaGreatDoorAMp6
import Derived.Test.YtbiefppedlodiaaGreatDoorW1
import Derived.Test.YtbiefppedlodiaaGreatDoorW9
import Derived.Test.YtbiefppedlodiaaGreatDoorW4
import Derived.Test.YtbiefppedlodiaaGreatDoorW7
import Derived.Test.YtbiefppedlodiaaGreatDoorAMp7
set_option linter.unusedSimpArgs false
set_option linter.unusedVariables false
open Nat renaming reduceLT → Na, reduceLeDiff → Nb, reduceEqDiff → Nc, reduceAdd → Nk, reduceMul → Nf, reducePow → Ng, reduceSub → Nh, reduceBEq → Nz
open Int renaming reduceLT → Za, reduceLE → Zb, reduceToNat → Zc
open And renaming intro → Ai
open Go.AM renaming ashift → Qa, aconv → Qb, aindexAddr → Qc, aindex → Qd, aslice → Qe, abuiltin → Qf, awp_reg_seq → wS, awp_reg_end → wE, awp_seq_k → wK, awp_cond_k → wC
open Go.AM.AV renaming cells → Qg, one → Qh
set_option maxRecDepth 100000
set_option maxHeartbeats 8000000
namespace Go.Proofs.YtbiefppedlodiaaGreatDoor
open Go Go.AM Go.Proofs Tryz
variable{Γ:Nat→List AV}
theorem Tf(P:bu→Bool)(h:bu):cd (fun i=>P ([h].getD i ⟨0,0⟩)) [h].length 0=if P h=true then 0 else -1:=by
 cases hp:P h<;>simp[cd,hp]
theorem yr(dU:Γ 0=eA Sha.H0)(gy:Γ 1=Sha.K.map wV)(S:cy)(tG:S.dy.length≤2^40)(nodes:List Int)(hn:nodes.length≤2^40)(h:bu)(ctx:List UInt8)(CA:ctx.length≤2^30)(i0:Nat)(fD:i0<nodes.length)
  (he:nodes[i0]=h.node) (N4:∀j,(hj:j<nodes.length)→j<i0→nodes[j]≠h.node) (YG:i0<S.dy.length) (iZ:yt h.key (S.dy[i0]).kc) (kq:(S.dy[i0]).text.length≤2^30) (s:AS):
  aj prog Γ 79 [.agg S.cells,aG nodes .any,eg [h],al ctx .any] s (fun r s'=>r=.eu [al (n9 h.key (S.dy[i0]).kc (S.dy[i0]).text eM ctx) .any,.v (.int .i64 ((oc h.key (S.dy[i0]).kc (S.dy[i0]).text eM ctx:Nat):Int))]∧s'=s):=by
 refine aa func79 rfl ntmps79 results79 (by simp) ?_;obtain⟨qk,qs⟩:=S;simp only at tG YG iZ kq⊢;have qI:∀(n:Int)(s:AS),aj prog Γ 130 [.sl 2 [h].length (aK bu.cells [h]) .any,.qE 131 [.cN [.v (.int .i64 n)]]] s (fun r s'=>r=.v (.int .i64 (if(h.node==n)=true then 0 else -1))∧s'=s):=fun n s=>by
  have:=rl (Γ:=Γ) [h] (by simp) .any 131 (by kernel_rfl) [.cN [.v (.int .i64 n)]] (fun x=>x.node==n) (fun x _ s=>z7 x n s) s;rwa [Tf (fun x=>x.node==n) h] at this
 have cT:=mW (c:=eH.cells) (k:=2) (fun _=>rfl) YG;have O5:=mW (c:=bu.cells) (k:=2) (l:=[h]) (i:=0) (fun _=>rfl) (by simp);have LB:=fun s=>LC (Γ:=Γ) dU gy h.key (qs[i0]).kc iZ (qs[i0]).text eM ctx (by decide) CA kq s;simp only[cy.cells];generalize aK eH.cells qs=Y at *
 generalize qs[i0]=q at *
 obtain⟨qf,qt⟩:=q;simp only at LB⊢;unfold eH.cells at cT;simp only at cT;have GM:∀s,aj prog Γ 132 [.v (.int .u64 h.key),.agg [.v (.int .u64 qf),al qt .any],.sl 1 4 [.v (.int .u8 112),.v (.int .u8 97),.v (.int .u8 116),.v (.int .u8 104)] .new,al ctx .any] s
   (fun r s'=>r=.eu [al (n9 h.key qf qt eM ctx) .any,.v (.int .i64 ((oc h.key qf qt eM ctx:Nat):Int))]∧s'=s):=fun s=>
  aj.gF (gE.aE.cons (AV.aE.refl _) (gE.aE.cons (AV.aE.refl _) (gE.aE.cons (AV.bN (sp:=.new)) (gE.aE.cons (AV.aE.refl _) gE.aE.nil)))) (LB s)
 clear LB;generalize n9 h.key qf qt eM ctx=RT at *
 generalize oc h.key qf qt eM ctx=RE at *
 obtain⟨EE,nr⟩:=h;simp only[eg,List.length_singleton,Nat.zero_mul,List.drop_zero,List.getElem_cons_zero] at qI O5 GM he N4⊢;generalize aK bu.cells [⟨EE,nr⟩]=X at *
 unfold bu.cells at O5;simp only at O5;unfold aG al;unfold al at GM cT;have h01:(0:Int)<((1:Nat):Int):=(by decide);refine aX 4 (by decide) ?_;intro K hK;refine jM ?_;intro o1 h1;refine hK _ _ o1 _ rfl h1 ?_;clear hK K h1;refine wK fun K hK=>?_;refine jA ?_;refine ag ?_;refine aD (fun E s2=>∃i:Nat,i≤i0∧E 15=.v (.int .i64 i)∧E 14=.v (.int .i64 nodes.length)∧E 13=.sl 1 nodes.length (nodes.map aJ) .any∧E 2=.sl 2 1 X .any∧E 3=.sl 1 ctx.length (ctx.map ae) .any∧E 4=.cN [.v (.int .u64 qk),.sl 2 qs.length Y .any]∧s2=s)
  (fun E _=>match E 15 with |.v (.int _ i)=>nodes.length-i.toNat|_=>0) ?_ ?_
 ·exact⟨0,Nat.zero_le _,rfl,rfl,rfl,rfl,rfl,rfl,rfl⟩
 ·rintro E1 s2 ⟨i,hi,g15,g14,g13,g2,g3,g4,rfl⟩ -
  have Jn:i<nodes.length:=(by omega);have bJ:((i:Nat):Int)<((nodes.length:Nat):Int):=(by omega);have cA:(0:Int)≤((i:Nat):Int):=(by omega);have hS:(List.take 1 (List.drop i (nodes.map aJ)))[0]? =some (AV.v (.int .i64 nodes[i])):=by
   simp[List.getElem?_take,Jn,aJ]
  have hb:=N4 i Jn;have hic:=fun s=>qI nodes[i] s;refine jB (Ai @g15 (Ai @g14 (decide_eq_true bJ))) ?_;refine wK fun K2 aU=>?_;refine jE ?_;refine ab ?_;refine aU _ _ ?_;clear aU K2;refine wK fun K3 bq=>?_;refine ag ?_;refine aX 11 (by decide) ?_;intro K4 dM;refine jN (Ai @g13 (Ai @g15 (Ai @bJ (Ai @cA @hS)))) ?_;intro o2 q2;refine dM _ _ o2 _ rfl q2 ?_;clear dM K4 q2;refine jS @g2 fun K hK=>?_;refine ad (hic _) ?_;rintro r s3 ⟨rfl,rfl⟩;by_cases hii:i<i0
  ·have cY:(EE==nodes[i])=false:=by
    rw[beq_eq_false_iff_ne];exact fun k=>hb hii k.symm
   rw[cY];simp only[Bool.false_eq_true,if_false];refine jR hK ?_;clear hK K;refine jA ?_;refine jF ?_;refine ab ?_;simp only[aq,aA,if_true,if_false];refine bq _ _ ?_;clear bq K3;refine jD (Ai @g15 (bd i (by omega))) ?_;refine⟨⟨i+1,by omega,rfl,g14,g13,g2,g3,g4,rfl⟩,?_⟩;simp only[g15,aB,↓reduceIte];omega
  ·obtain rfl:i=i0:=(by omega);have hee:(EE==nodes[i])=true:=by
    rw[he];simp
   rw[hee];simp only[if_true];have ns:((i:Nat):Int)<((qs.length:Nat):Int):=(by omega);refine jR hK ?_;clear hK K;refine jA ?_;refine jE ?_;refine bj T.mixed [13] (by kernel_rfl) ?_;intro K hK;simp only[↓DM,bE,DX,Nz,↓DN,Qa,Qb,Qc,Qd,Qe,Qf,Qg,Qh,reduceCtorEq,↓reduceIte,Na,Nb,Nc,Nk,Nf,Ng,Nh,Za,Zb,Zc,TT,g2,g3,g4,cA,ns,cT,O5,h01,List.replicate_succ,List.replicate_zero];refine ad (GM _) ?_;rintro r s4 ⟨rfl,rfl⟩;refine jR hK ?_;clear hK K;exact jJ
def z8(t:List ah)(leaf own:Int):List Nat:=(az leaf.toNat (aI t)).drop (LD leaf.toNat (aI t) own.toNat).toNat
def CB(t:List ah)(gG:List Nat)(i:Nat):Nat:=(nd t (gG.getD i 0)).key
def rX(t:List ah)(leaf own:Int)(x:List UInt8):List bu×List UInt8×Int:=
 if lj t leaf≠0 then([],[],lj t leaf) else if ¬cB t own∨own=leaf then([],[],43) else
 if(iH x (z8 t leaf own) (CB t (z8 t leaf own))).2.2=true∧x.length=32 then((iH x (z8 t leaf own) (CB t (z8 t leaf own))).1,(iH x (z8 t leaf own) (CB t (z8 t leaf own))).2.1,0) else([],[],45)
theorem O6:∀m≤5,∀leaf<2^m,∀own<2^m,cd (fun i=>ep ((aP (az leaf (2^m))).getD i 0) (own:Nat)) (az leaf (2^m)).length 0=LD leaf (2^m) own∧(own≠leaf→0≤LD leaf (2^m) own∧(LD leaf (2^m) own).toNat<(az leaf (2^m)).length):=by decide+kernel
theorem Ij{leaf l own:Nat}(hl:Fit l)(h:leaf<l)(ho:own<l)(cY:own≠leaf):
  ∃a:Nat,a<(az leaf l).length∧cd (fun i=>ep ((aP (az leaf l)).getD i 0) (own:Nat)) (aP (az leaf l)).length 0=(a:Int)∧LD leaf l own=(a:Int):=by
 obtain⟨m,hm,rfl⟩:=hl.pow;obtain⟨h1,h2⟩:=O6 m hm leaf h own ho;obtain⟨h3,h4⟩:=h2 cY;refine⟨(LD leaf (2^m) own).toNat,h4,?_,by omega⟩;rw[br,h1];omega
theorem Ik{leaf l:Nat}(hl:Fit l)(h:leaf<l){i:Nat}(hi:i<(az leaf l).length):(az leaf l).getD i 0<2*l-1:=by
 have:=tD hl h _ (List.getElem_mem hi);simpa[List.getD,hi] using this.1
theorem yu(l:List Nat)(a:Nat):(aP (l.drop a)).map aJ=((aP l).map aJ).drop a:=by
 simp[aP,List.map_drop]
theorem Aa(dU:Γ 0=eA Sha.H0)(gy:Γ 1=Sha.K.map wV)(hG:Γ 3=fi.map oJ)(t:List ah)(ht:eI t)(leaf own:Int)(x:List UInt8)(hx:x.length≤2^36)(s:AS):
  aj prog Γ 24 [aW t,.v (.int .i64 leaf),.v (.int .i64 own),al x .any] s (fun r s'=>r=.eu [eg (rX t leaf own x).1,al (rX t leaf own x).2.1 .any,.v (.int .i64 (rX t leaf own x).2.2)]∧s'=s):=by
 refine aa func24 rfl ntmps24 results24 (by simp) ?_;have EG:=fun s=>pS (Γ:=Γ) hG t ht leaf s;have jk:=fun s=>iI (Γ:=Γ) t ht.1 own s;have cD:=fun s=>fE (Γ:=Γ) hG t ht s;obtain⟨R,hR⟩:∃R,R=rX t leaf own x:=⟨_,rfl⟩;rw[←hR];unfold rX at hR;have fW:∀e:Int,R=([],[],e)→∀(E:Env)(s5:AS),s.le s5→E 8=.v (.slice none 0 0)→E 9=.v (.slice none 0 0)→E 10=.v (.int .i64 e)→bz prog (#[ResultVar.tmp 8,ResultVar.tmp 9,ResultVar.tmp 10]:Array ResultVar).toList (fun r s'=>r=.eu [eg R.1,al R.2.1 .any,.v (.int .i64 R.2.2)]∧s'=s) E s5:=by
  intro e hA' E s5 hle f8 f9 f10;rw[hA'];simp only[bz,bF,dm,f8,f9,f10];exact⟨_,_,AV.qn AV.aM AV.aM (AV.aE.refl _),hle,rfl,rfl⟩
 refine iw 4 6 (by decide) (by decide) (by decide) ?_;intro K hK;refine jM ?_;intro o1 q1 o2 q2;refine hK _ _ o1 o2 _ _ rfl rfl q1 (by rw[AS.gW];exact q2) ?_;clear hK K q1 q2;unfold aW at EG jk cD⊢;unfold al;refine wK fun K hK=>?_;refine jK (EG _) ?_;rintro s1 rfl;by_cases he:lj t leaf=0
 ·have e0:(lj t leaf != 0)=false:=(by simp[he]);rw[if_neg (by rw[he];simp)] at hR;refine jB @e0 ?_;refine jF ?_;refine ab ?_;refine hK _ _ ?_;clear hK K;obtain⟨hr,hm⟩:=fX.1 he;obtain⟨lf,rfl⟩:=Int.eq_ofNat_of_zero_le hm.1;obtain⟨bT,kq⟩:Fit (aI t)∧t.length=2*aI t-1:=by
   rcases bG (t:=t) with h|h
   ·exact absurd h hr.1
   ·exact h
  have oZ:=bT.le;have ev:lf<aI t:=by
   have:=hm.2.1;omega
  by_cases DA:cB t own
  ·rw[decide_eq_true DA] at jk;obtain⟨ow,rfl⟩:=Int.eq_ofNat_of_zero_le DA.1;have how:ow<aI t:=by
    have:=DA.2.1;omega
   by_cases cY:ow=lf
   ·subst cY;rw[if_pos (.inr rfl)] at hR;refine wK fun K hK=>?_;refine jQ fun K hK=>?_;refine ad (jk _) ?_;rintro r s2 ⟨rfl,rfl⟩;have e1:((ow:Int)==(ow:Int))=true:=(by simp);refine jV @e1 hK ?_;clear hK K;refine jE ?_;refine jA ?_;refine a7 ?_;try simp only[aA,aq]
    exact fW 43 hR _ _ (AS.le.refl _) rfl rfl rfl
   ·have e1:((ow:Int)==(lf:Int))=false:=by
     rw[beq_eq_false_iff_ne];omega
    rw[if_neg (by rw[not_or,Classical.not_not];exact⟨DA,by omega⟩)] at hR;rw[if_pos hr] at cD;obtain⟨a,ha,LF,cT⟩:=Ij bT ev how cY;have Tg:z8 t (lf:Int) (ow:Int)=(az lf (aI t)).drop a:=by
     unfold z8;rw[Int.toNat_natCast,Int.toNat_natCast,cT,Int.toNat_natCast]
    rw[Tg] at hR;have jb:=fun s=>iF (Γ:=Γ) hG lf (aI t) bT ev s;have xz:=fC bT ev;have qI:=fun s=>kK (Γ:=Γ) (aP (az lf (aI t))) (by rw[br];omega) 72 (by kernel_rfl) [.cN [.v (.int .i64 ow)]] (fun x=>ep x ow) (fun x _ s=>CD hG x ow s) s;rw[LF] at qI;have rm:=fun i(h:i<(az lf (aI t)).length)=>Ik bT ev h;generalize hP:az lf (aI t)=P at *
    have F4:∀i,(P.drop a).getD i 0=P.getD (a+i) 0:=by
     intro i;simp[List.getD,List.getElem?_drop]
    have gw:=fun s=>rn (Γ:=Γ) dU gy x hx (P.drop a) (by rw[List.length_drop];omega) 75 (by kernel_rfl) [.cN [aW t],.cN [aG (aP P) .any],.cN [.v (.int .i64 a)]] (CB t (P.drop a)) (fun i hi s=>by
     rw[List.length_drop] at hi;unfold CB;rw[F4];exact CE t (by have:=ht.1;omega) P (by omega) a i (by omega) (by have:=rm (a+i) (by omega);omega) s) s
    have B7:(aP (P.drop a)).length=P.length-a:=(by rw[br,List.length_drop]);have Bn:=br P;have NZ:List.drop a (List.take P.length ((aP P).map aJ))=(aP (P.drop a)).map aJ:=by
     rw[yu,List.take_of_length_le (by rw[List.length_map,br];exact Nat.le_refl _)]
    obtain⟨C,hC⟩:∃C,C=iH x (P.drop a) (CB t (P.drop a)):=⟨_,rfl⟩;rw[←hC] at gw hR;unfold aG aW al at gw;unfold aG at qI jb;rw[B7] at gw;rw[Bn] at gw qI jb;generalize aP P=U at *
    generalize aP (P.drop a)=U2 at *
    obtain⟨C1,C2,C3⟩:=C;simp only at gw hR;have eW:((a:Nat):Int)≤((P.length:Nat):Int):=(by omega);have pb:(0:Int)≤((a:Nat):Int):=(by omega);refine wK fun K hK=>?_;refine jQ fun K hK=>?_;refine ad (jk _) ?_;rintro r s2 ⟨rfl,rfl⟩;refine jV @e1 hK ?_;clear hK K;refine jF ?_;refine ab ?_;refine hK _ _ ?_;clear hK K;refine aX 12 (by decide) ?_;intro K hK;refine jM ?_;refine ad (cD _) ?_;rintro r s3 ⟨rfl,rfl⟩;refine jM ?_;refine ad (jb _) ?_;rintro r s4 ⟨rfl,rfl⟩;refine jM ?_;intro o3 q3;refine hK _ _ o3 _ rfl q3 ?_;clear hK K q3;refine aX 13 (by decide) ?_;intro K hK;refine jM ?_;refine ad (qI _) ?_;rintro r s5 ⟨rfl,rfl⟩;refine jM ?_;intro o4 q4;refine hK _ _ o4 _ rfl q4 ?_;clear hK K q4;have gH:=Int.le_refl ((P.length:Nat):Int);refine jS (Ai @eW (Ai @pb (Ai @gH (Ai @Int.toNat_natCast (Ai @Nat.mul_one @NZ))))) fun K hK=>?_;refine ad (gw _) ?_;rintro r s6 ⟨rfl,rfl⟩;refine jR hK ?_;clear hK K;refine wK fun K hK=>?_;have YH:(¬(C3=true∧x.length=32))→R=([],[],45):=(fun h=>by rw[hR,if_neg h]);cases C3 with
    |false=>
     refine jA ?_;refine jE ?_;refine jA ?_;refine a7 ?_;try simp only[aA,aq]
     exact fW 45 (YH (fun h=>by cases h.1)) _ _ (AS.le.refl _) rfl rfl rfl
    |true=>
     by_cases qH:x.length=32
     ·have e2:((x.length:Int) != 32)=false:=(by rw[qH];rfl);rw[if_pos ⟨rfl,qH⟩] at hR;refine jB @e2 ?_;refine jF ?_;refine ab ?_;refine hK _ _ ?_;clear hK K;refine jA ?_;refine jI ?_;rw[hR];exact jW ⟨rfl,rfl⟩
     ·have e2:((x.length:Int) != 32)=true:=by
       rw[bne_iff_ne];omega
      refine jB @e2 ?_;refine jE ?_;refine jA ?_;refine a7 ?_;try simp only[aA,aq]
      exact fW 45 (YH (fun h=>qH h.2)) _ _ (AS.le.refl _) rfl rfl rfl
  ·rw[decide_eq_false DA] at jk;rw[if_pos (.inl DA)] at hR;refine wK fun K hK=>?_;refine jK (jk _) ?_;rintro s2 rfl;refine jE ?_;refine jA ?_;refine a7 ?_;try simp only[aA,aq]
   exact fW 43 hR _ _ (AS.le.refl _) rfl rfl rfl
 ·have e0:(lj t leaf != 0)=true:=(by simp[he]);rw[if_pos he] at hR;refine jB @e0 ?_;refine jE ?_;refine jA ?_;refine a7 ?_;try simp only[aA,aq]
  exact fW _ hR _ _ (AS.le.refl _) rfl rfl rfl
theorem EH{t:List ah}{fresh:List Int}{up:Nat}{x:Int}(h:x∈CF t fresh up):0≤x∧x<(aI t:Int)∧ep up x=true∧cB t x:=by
  unfold CF EI at h;simp only[List.mem_filter,List.mem_map,List.mem_range,Bool.and_eq_true,decide_eq_true_eq] at h;obtain⟨⟨k,hk,rfl⟩,_,h2,h3⟩:=h;exact⟨by omega,by omega,h2,h3⟩
theorem EJ(t:List ah)(fresh:List Int)(up:Nat):jq (CF t fresh up):=by
  refine JC ?_ fun x hx=>?_
  · unfold CF EI;refine List.Pairwise.filter _ ?_;rw[List.pairwise_map];exact(List.pairwise_lt_range).imp fun h=>by omega
  · have:=EH hx;have:=CG t;omega
theorem pT{n:Nat}:iX n=true↔2≤n∧n≤2305843009213693949:=by
  unfold iX;rw[Bool.and_eq_true,decide_eq_true_iff,decide_eq_true_iff];omega
theorem tH{t:List ah}{fresh:List Int}{up k:Nat}{par:List UInt8}(hk:iX k=true)(hp:par.length=0∨par.length=32):(⟨2,[],k,par,CF t fresh up⟩:ah).right:=
  (fT rfl).2 ⟨rfl,⟨(pT.1 hk).1,(pT.1 hk).2,hp⟩,EJ t fresh up⟩
theorem rY(t:List ah)(leaf:Nat)(keys:List Nat)(fresh:List Int):∀i,(pU t leaf keys fresh i).2.length=0∨(pU t leaf keys fresh i).2.length=32
  |0=>.inl rfl
  |i+1=>.inr (by simp only[pU];exact Sha.du _)
theorem Il{keys:List Nat}(hk:∀k∈keys,iX k=true){j:Nat}(h:j<keys.length):iX (keys.getD j 0)=true:=by
  simp only[List.getD,List.getElem?_eq_getElem h,Option.getD_some];exact hk _ (List.getElem_mem h)
theorem LG{t:List ah}{leaf:Nat}{keys:List Nat}{fresh:List Int}(hk:∀k∈keys,iX k=true)(hl:(az leaf (aI t)).length≤keys.length):
    ∀i,i≤(az leaf (aI t)).length→mX t leaf keys fresh i=pU t leaf keys fresh i
  |0,_=>rfl
  |i+1,h=>by
    have ih:=LG hk hl (fresh:=fresh) i (by omega);have hb:=tH (t:=t) (fresh:=fresh) (up:=(az leaf (aI t)).getD ((az leaf (aI t)).length-1-i) 0) (Il hk (j:=(az leaf (aI t)).length-1-i) (by omega)) (rY t leaf keys fresh i);simp only[mX,pU];rw[ih];unfold od;rw[if_pos ⟨hb,rfl⟩]
theorem O7{t:List ah}{leaf key:Nat}{keys:List Nat}{fresh:List Int}(hk:∀k∈keys,iX k=true)(hl:(az leaf (aI t)).length≤keys.length):eJ t leaf key keys fresh=vU t leaf key keys fresh:=by
  unfold eJ vU;rw[LG hk hl _ (Nat.le_refl _)]
def LH(t:List ah)(j:Nat)(n:ah):Prop:=j%2=1∧n.right∧n.kind=2∧∀u∈n.iA,0≤u∧u<(aI t:Int)∧ep j u=true∧cB t u
theorem Im{t:List ah}{leaf:Nat}(bT:Fit (aI t))(ev:leaf<aI t){keys:List Nat}{fresh:List Int}(hk:∀k∈keys,iX k=true)(hl:(az leaf (aI t)).length≤keys.length):
    ∀i,i≤(az leaf (aI t)).length→∀j,nd (pU t leaf keys fresh i).1 j=nd t j∨LH t j (nd (pU t leaf keys fresh i).1 j)
  |0,_,_=>.inl rfl
  |i+1,h,j=>by
    have ih:=Im bT ev hk hl (fresh:=fresh) i (by omega) j;have hb:=tH (t:=t) (fresh:=fresh) (up:=(az leaf (aI t)).getD ((az leaf (aI t)).length-1-i) 0) (Il hk (j:=(az leaf (aI t)).length-1-i) (by omega)) (rY t leaf keys fresh i);have hm:(az leaf (aI t)).getD ((az leaf (aI t)).length-1-i) 0∈az leaf (aI t):=by
      simp only[List.getD,List.getElem?_eq_getElem (show(az leaf (aI t)).length-1-i<(az leaf (aI t)).length by omega),Option.getD_some];exact List.getElem_mem _
    have hp:=tD bT ev _ hm;simp only[pU];generalize (az leaf (aI t)).getD ((az leaf (aI t)).length-1-i) 0=up at *
    rw[oe];split
    · rename_i e;obtain⟨rfl,_⟩:=e;exact .inr ⟨hp.2.1,hb,rfl,fun u hu=>EH hu⟩
    · exact ih
theorem GN{t:List ah}(hr:bf t){leaf key:Nat}(hm:cB t leaf)(hp:iX key=true){keys:List Nat}{fresh:List Int}(hk:∀k∈keys,iX k=true)(hl:(az leaf (aI t)).length≤keys.length):bf (vU t leaf key keys fresh):=by
  obtain⟨⟨hL,hlen,h1,h2⟩,h3⟩:=hr.xcn;have ev:leaf<aI t:=by
    have:=hm.2.1;have:=hL.le;omega
  have hnd:=Im hL ev (fresh:=fresh) hk hl _ (Nat.le_refl _);have LI:=rY t leaf keys fresh (az leaf (aI t)).length;have uX:=EK t leaf keys fresh (az leaf (aI t)).length;have hev:∀a,nd (pU t leaf keys fresh (az leaf (aI t)).length).1 (2*a)=nd t (2*a):=by
    intro a;rcases hnd (2*a) with h|h
    · exact h
    · have:=h.1;omega
  have UO:∀j,nd (vU t leaf key keys fresh) j=if j=2*leaf then{nd t (2*leaf) with key:=key,parent:=(pU t leaf keys fresh (az leaf (aI t)).length).2} else nd (pU t leaf keys fresh (az leaf (aI t)).length).1 j:=by
    intro j;unfold vU;simp only;rw[oe,hev];by_cases e:j=2*leaf
    · rw[if_pos ⟨e.symm,by omega⟩,if_pos e]
    · rw[if_neg (fun q=>e q.1.symm),if_neg e]
  have hlw:(vU t leaf key keys fresh).length=2*aI t-1:=by
    unfold vU;rw[List.length_set,uX,hlen]
  generalize (pU t leaf keys fresh (az leaf (aI t)).length).1=W at *
  generalize (pU t leaf keys fresh (az leaf (aI t)).length).2=par at *
  generalize vU t leaf key keys fresh=T at *
  have Dy:(nd t (2*leaf)).kind=1:=(by simpa using hm.2.2);have RD:∀a,(nd T (2*a)).kind=(nd t (2*a)).kind∧(nd T (2*a)).name=(nd t (2*a)).name:=by
    intro a;rw[UO];by_cases e:2*a=2*leaf
    · rw[if_pos e,e];exact⟨rfl,rfl⟩
    · rw[if_neg e,hev];exact⟨rfl,rfl⟩
  refine(yv hL hlw).2 ⟨fun i hi=>?_,fun a b zF hbL ha hb=>?_,?_⟩
  · by_cases e:i=2*leaf
    · rw[UO,if_pos e];have hq:=(fg Dy).1 (h1 _ (show 2*leaf<2*aI t-1 by omega)).1;refine⟨(fg (by exact Dy)).2 ⟨hq.1,hq.2.1,⟨(pT.1 hp).1,(pT.1 hp).2,LI⟩,hq.2.2.2⟩,.inr ⟨fun _=>by omega,fun _=>Dy⟩,?_⟩;have h0:(nd t (2*leaf)).iA=[]:=List.eq_nil_of_length_eq_zero hq.2.2.2;intro u hu;simp only[h0] at hu;cases hu
    · rw[UO,if_neg e];rcases hnd i with h|⟨q1,q2,q3,q4⟩
      · rw[h];obtain⟨a1,a2,a3⟩:=h1 i hi;refine⟨a1,a2,fun u hu=>?_⟩;obtain⟨b1,b2,b3,b4,b5⟩:=a3 u hu;exact⟨b1,b2,b3,b4,by rw[(RD _).1];exact b5⟩
      · refine⟨q2,.inr ⟨fun h=>(by rw[q3] at h;cases h),fun h=>(by omega)⟩,fun u hu=>?_⟩;obtain⟨b1,b2,b3,b4⟩:=q4 u hu;have hL2:=hL.le;unfold ep iD at b3;rw[if_pos (by omega),Int.toNat_natCast,decide_eq_true_iff] at b3;exact⟨b3.1,b3.2,b1,b2,by rw[(RD _).1];exact b4.2.2⟩
  · rw[(RD _).1] at ha hb;rw[(RD _).2,(RD _).2];exact h2 a b zF hbL ha hb
  · rcases h3 with h3|⟨j,j1,j2,j3⟩
    · exact .inl h3
    · exact .inr ⟨j,j1,j2,by rw[(RD _).1];exact j3⟩
theorem Io(l:List bu):(aK bu.cells l).all AV.one=true:=by
 rw[List.all_eq_true];intro c hc;simp only[aK,List.mem_flatten,List.mem_map] at hc;obtain⟨_,⟨n,-,rfl⟩,hc⟩:=hc;simp only[bu.cells,List.mem_cons,List.not_mem_nil,or_false] at hc;rcases hc with rfl|rfl<;>rfl
theorem CH(dU:Γ 0=eA Sha.H0)(gy:Γ 1=Sha.K.map wV)(hG:Γ 3=fi.map oJ)(t:List ah)(ht:eI t)(LJ:t.length≤2^30)(hw:∀n∈t,lX n)(hr:bf t)(lf:Nat)(hm:cB t lf)
  (p:dN) (hp:p.steps.length=(az lf (aI t)).length) (ow:Nat) (DA:cB t ow) (cY:ow≠lf) (h:bu) (ctx:List UInt8) (CA:ctx.length≤2^30) (fresh:List Int) (hf:fresh.length≤2^40) (Th:(ow:Int)∉fresh) (O8:(pV t lf p fresh).2=0)
  (a:Nat) (ha:LD lf (aI t) ow=(a:Int)) (lM:a<p.steps.length) (i0:Nat) (fD:i0<(bC t (bY (nodeAt lf (aI t) a):Nat) fresh).length) (he:(bC t (bY (nodeAt lf (aI t) a):Nat) fresh)[i0]=h.node)
  (N4:∀j,(hj:j<(bC t (bY (nodeAt lf (aI t) a):Nat) fresh).length)→j<i0→(bC t (bY (nodeAt lf (aI t) a):Nat) fresh)[j]≠h.node) (YG:i0<(p.steps[a]).dy.length) (tG:(p.steps[a]).dy.length≤2^40) (iZ:yt h.key ((p.steps[a]).dy[i0]).kc)
  (kq:((p.steps[a]).dy[i0]).text.length≤2^30) (YI:h.node∉aP (az lf (aI t))) (x:List UInt8) (hx:n9 h.key ((p.steps[a]).dy[i0]).kc ((p.steps[a]).dy[i0]).text eM ctx=x) (hE:oc h.key ((p.steps[a]).dy[i0]).kc ((p.steps[a]).dy[i0]).text eM ctx=0)
  (xcp:x.length=32) (H3:pW x ((az lf (aI t)).drop a).length (fun i=>(p.steps.getD (a+i) ⟨0,[]⟩).key)=true) (s:AS):
  aj prog Γ 27 [aW t,.v (.int .i64 lf),.agg p.cells,.v (.int .i64 ow),eg [h],al ctx .any,aG fresh .any] s
   (fun r s'=>r=.eu [eg (h::dT x ((az lf (aI t)).drop a)),al (b7 x ((az lf (aI t)).length-a)) .any,.v (.int .i64 0)]∧s'=s):=by
 refine aa func27 rfl ntmps27 results27 (by simp) ?_;obtain⟨bT,YJ⟩:Fit (aI t)∧t.length=2*aI t-1:=by
  rcases bG (t:=t) with h|h
  ·exact absurd h hr.1
  ·exact h
 have oZ:=bT.le;have ev:lf<aI t:=by
  have:=hm.2.1;omega
 have how:ow<aI t:=by
  have:=DA.2.1;omega
 have xz:=fC bT ev;have LK:=fun s=>Ab (Γ:=Γ) dU gy hG t ht LJ hw lf p (by omega) fresh hf s;rw[O8] at LK;have jk:=fun s=>iI (Γ:=Γ) t ht.1 ow s;rw[decide_eq_true DA] at jk;have O9:=fun s=>iJ (Γ:=Γ) fresh (ow:Nat) (by omega) s;rw[decide_eq_false Th] at O9;have cD:=fun s=>fE (Γ:=Γ) hG t ht s;rw[if_pos hr] at cD;have jb:=fun s=>iF (Γ:=Γ) hG lf (aI t) bT ev s;have Gi:=fun s=>iK (Γ:=Γ) hG lf (aI t) bT ev s;have dV:=fun s=>jt (Γ:=Γ) hG t ht (bY (nodeAt lf (aI t) a):Nat) fresh (by omega) s;obtain⟨a',-,LF,iL⟩:=Ij bT ev how cY;obtain rfl:a'=a:=(by omega);have qI:=fun s=>kK (Γ:=Γ) (aP (az lf (aI t))) (by rw[br];omega) 78 (by kernel_rfl) [.cN [.v (.int .i64 ow)]] (fun x=>ep x ow) (fun x _ s=>EL hG x ow s) s;rw[LF] at qI;have RF:=iM hr fresh;have Pb:(bC t (bY (nodeAt lf (aI t) a'):Nat) fresh).length≤2^40:=by
  unfold bC;split
  ·have h1:=RF (lv (bY (nodeAt lf (aI t) a'):Int).toNat) (bY (nodeAt lf (aI t) a'):Int).toNat;have h2:=nn (bY (nodeAt lf (aI t) a'):Int).toNat;have h3:=Nat.pow_le_pow_right (show 0<2 by decide) h2;omega
  ·exact Nat.zero_le _
 have ib:=fun s=>yr (Γ:=Γ) dU gy p.steps[a'] tG (bC t (bY (nodeAt lf (aI t) a'):Nat) fresh) Pb h ctx CA i0 fD he N4 YG iZ kq s;rw[hx,hE] at ib;have hps:p.steps.length=(az lf (aI t)).length:=hp;have gw:=fun s=>rn (Γ:=Γ) dU gy x (by omega) ((az lf (aI t)).drop a') (by rw[List.length_drop];omega) 80 (by kernel_rfl) [.cN p.cells,.cN [.v (.int .i64 a')]] (fun i=>(p.steps.getD (a'+i) ⟨0,[]⟩).key) (fun i hi s=>by
  rw[List.length_drop] at hi;exact EM p a' i (by omega) (by omega) s) s
 have hct:iH x ((az lf (aI t)).drop a') (fun i=>(p.steps.getD (a'+i) ⟨0,[]⟩).key)=(dT x ((az lf (aI t)).drop a'),b7 x ((az lf (aI t)).length-a'),true):=by
  unfold iH;rw[if_pos H3,List.length_drop]
 rw[hct] at gw;simp only at gw;have uY:=fun s=>wJ (Γ:=Γ) [h] (by simp) (by simp) s;have RG:=fun tk s=>Ac (Γ:=Γ) [h] (by simp) (.own tk 0) 83 (by kernel_rfl) [.cN [aG (aP (az lf (aI t))) .any]] (fun y=>decide (y.node∈aP (az lf (aI t)))) (fun y _ s=>EN y _ (by rw[br];omega) s)
  (fun y hy=>by rw[List.mem_singleton.1 hy];exact decide_eq_false YI) s
 have YK:=lY x ((az lf (aI t)).drop a');rw[List.length_drop] at YK;have sF:(dT x ((az lf (aI t)).drop a')).length≠0:=(by omega);have kG:=Io (dT x ((az lf (aI t)).drop a'));have EO:eg (h::dT x ((az lf (aI t)).drop a'))=.sl 2 (1+(dT x ((az lf (aI t)).drop a')).length) (aK bu.cells [h]++aK bu.cells (dT x ((az lf (aI t)).drop a'))) .any:=by
  rw[←ke];unfold eg;rw[List.length_cons,Nat.add_comm,List.singleton_append]
 have B7:(aP ((az lf (aI t)).drop a')).length=(az lf (aI t)).length-a':=(by rw[br,List.length_drop]);have Bn:=br (az lf (aI t));have NZ:List.drop a' (List.take (az lf (aI t)).length ((aP (az lf (aI t))).map aJ))=(aP ((az lf (aI t)).drop a')).map aJ:=by
  rw[yu,List.take_of_length_le (by rw[List.length_map,br];exact Nat.le_refl _)]
 have GO:(aP (cQ lf (aI t))).length=(az lf (aI t)).length:=(by simp[br,cQ]);have N5:(List.take 1 (List.drop a' ((aP (cQ lf (aI t))).map aJ)))[0]? =some (AV.v (.int .i64 (bY (nodeAt lf (aI t) a'):Nat))):=by
  have hi:a'<(az lf (aI t)).length:=(by omega);simp[List.getElem?_take,aP,cQ,hi,aJ]
 have gS:=mW (c:=cy.cells) (k:=2) (fun _=>rfl) lM;rw[EO];obtain⟨pk,pp,ps⟩:=p;simp only[dN.cells] at *
 clear hct H3 RF Pb hE hx iZ kq YG tG N4 he fD LF iL ha DA hm O8 YI EO hw;generalize hY:aK cy.cells ps=Y at *
 generalize ps[a']=q at *
 obtain⟨qk,qs⟩:=q;unfold cy.cells at ib gS;simp only at ib gS;generalize aP (cQ lf (aI t))=SD at *
 unfold aW aG at *
 unfold eg al at *
 rw[B7] at gw;rw[Bn] at qI jb RG;generalize bY (nodeAt lf (aI t) a')=sd at *
 generalize bC t (sd:Nat) fresh=RT at *
 generalize b7 x ((az lf (aI t)).length-a')=y at *
 generalize dT x ((az lf (aI t)).drop a')=CL at *
 generalize aP ((az lf (aI t)).drop a')=U2 at *
 generalize az lf (aI t)=P at *
 generalize aP P=U at *
 have eW:((a':Nat):Int)≤((P.length:Nat):Int):=(by omega);have pb:(0:Int)≤((a':Nat):Int):=(by omega);have gH:=Int.le_refl ((P.length:Nat):Int);have CI:((a':Nat):Int)<((ps.length:Nat):Int):=(by omega);have ns:((a':Nat):Int)<((SD.length:Nat):Int):=(by omega);have e1:((ow:Int)==(lf:Int))=false:=by
  rw[beq_eq_false_iff_ne];omega
 have e2:((x.length:Int) != 32)=false:=(by rw[xcp];rfl);have Ko:((0:Int) != 0)=false:=rfl;have e01:(((0:Nat):Int) != 0)=false:=rfl;refine iw 9 10 (by decide) (by decide) (by decide) ?_;intro K hK;refine jM ?_;intro o1 q1 o2 q2;refine hK _ _ o1 o2 _ _ rfl rfl q1 (by rw[AS.gW];exact q2) ?_;clear hK K q1 q2;refine wK fun K hK=>?_;refine jK (LK _) ?_;rintro s1 rfl;refine jB @Ko ?_;refine jF ?_;refine ab ?_;refine hK _ _ ?_;clear hK K;refine wK fun K hK=>?_;refine jQ fun K hK=>?_;refine ad (jk _) ?_;rintro r s2 ⟨rfl,rfl⟩;refine jN @e1 ?_;refine ad (O9 _) ?_;rintro r s3 ⟨rfl,rfl⟩;refine jR hK ?_;clear hK K;refine jF ?_;refine ab ?_;refine hK _ _ ?_;clear hK K;refine jK (cD _) ?_;rintro s4 rfl;refine aX 20 (by decide) ?_;intro K hK;refine jM ?_;refine ad (jb _) ?_;rintro r s5 ⟨rfl,rfl⟩;refine jM ?_;refine ad (Gi _) ?_;rintro r s6 ⟨rfl,rfl⟩;refine jM ?_;intro o3 q3;refine hK _ _ o3 _ rfl q3 ?_;clear hK K q3;refine aX 22 (by decide) ?_;intro K hK;refine jM ?_;refine ad (qI _) ?_;rintro r s7 ⟨rfl,rfl⟩;refine jM ?_;intro o4 q4;refine hK _ _ o4 _ rfl q4 ?_;clear hK K q4;refine bj T.mixed [11,14] (by kernel_rfl) ?_;intro K hK;refine jN (Ai @pb (Ai @CI (Ai @gS (Ai @ns @N5)))) ?_;refine ad (dV _) ?_;rintro r s8 ⟨rfl,rfl⟩;refine jM ?_;refine ad (ib _) ?_;rintro r s9 ⟨rfl,rfl⟩;refine jR hK ?_;clear hK K;refine wK fun K hK=>?_;refine jB (Ai @e01 @Ko) ?_;refine jF ?_;refine ab ?_;refine hK _ _ ?_;clear hK K;refine jS (Ai @eW (Ai @pb (Ai @gH (Ai @Int.toNat_natCast (Ai @Nat.mul_one @NZ))))) fun K hK=>?_;refine ad (gw _) ?_;rintro r Pf ⟨rfl,rfl⟩;refine jR hK ?_;clear hK K;refine wK fun K hK=>?_;refine jB @e2 ?_;refine jF ?_;refine ab ?_;refine hK _ _ ?_;clear hK K;refine jQ fun K hK=>?_;refine ad (uY _) ?_;rintro r Pg ⟨tk,rfl,eo,rfl⟩;refine jM ?_;refine ad (RG tk _) ?_;rintro r s12 ⟨rfl,rfl⟩;refine jR hK ?_;clear hK K;refine jS (Ai @sF @kG) fun K hK=>?_;refine⟨by omega,by omega,hK _ _ ?_⟩;clear hK K;refine jI ?_;exact⟨_,_,AV.qn AV.bN (AV.aE.refl _) (AV.aE.refl _),AS.bn (AS.bn (AS.le.refl _) eo 0) eo 1,rfl,rfl⟩
def tI(t:List ah)(d ctx:List UInt8)(i n:Nat):eH:=⟨iN (iO d i n),iP (nd t n).key eM ctx (b7 d (i+1)) (iO d i n)⟩
def gI(t:List ah)(d ctx:List UInt8)(i:Nat)(RT:List Int):cy:=⟨lZ (b7 d (i+1)),RT.map fun n=>tI t d ctx i n.toNat⟩
def vV(d:List UInt8)(i:Nat)(n:Int):Bool:=iX (iN (iO d i n.toNat))
def stepG(d:List UInt8)(i:Nat)(RT:List Int):Bool:=iX (lZ (b7 d (i+1)))&&RT.all (vV d i)
theorem Ti{t:List ah}(hr:bf t){m:Nat}(h:(nd t m).kind≠0):vW (nd t m).key:=by
 have hn:=hr.nd m;rcases js hn with hk|hk|hk
 ·exact absurd hk h
 ·have:=((fg hk).1 hn).2.2.1;exact⟨this.1,this.2.1⟩
 ·have:=((fT hk).1 hn).2.1;exact⟨this.1,this.2.1⟩
theorem LM{s:AS}{yg rZ:Nat}{Z W:List AV}(UQ:s.aw yg=none)(Ad:(if rZ=yg then some Z else s.aw rZ)=none):
  rZ≠yg∧((s.set yg Z).set rZ W).aw yg=some Z∧((s.set yg Z).set rZ W).aw rZ=some W∧s.le ((s.set yg Z).set rZ W)∧s.aw rZ=none:=by
 have cY:rZ≠yg:=(fun e=>by rw[if_pos e] at Ad;cases Ad);rw[if_neg cY] at Ad;exact⟨cY,by rw[AS.ao _ (Ne.symm cY)];exact AS.af _ _ _,AS.af _ _ _,AS.aF (AS.aF (AS.le.refl s) UQ _) Ad _,Ad⟩
theorem none_le{s s2:AS}(h:s.le s2){o:Nat}(ho:s2.aw o=none):s.aw o=none:=by
 cases hx:s.aw o with
 |none=>rfl
 |some cs=>rw[h.aw o cs hx] at ho;cases ho
theorem uZ{s s2:AS}(h:s.le s2){o:Nat}(ho:s.aw o=none)(cs:List AV):s.le (s2.set o cs):=AS.aF h ho cs
theorem CJ(dU:Γ 0=eA Sha.H0)(gy:Γ 1=Sha.K.map wV)(hG:Γ 3=fi.map oJ)(t:List ah)(ht:eI t)(hr:bf t)(i:Nat)(hi:i<256)(sd:Nat)(I9:sd<t.length)
  (d ctx:List UInt8) (hd:d.length≤2^36) (CA:ctx.length≤2^30) (fresh:List Int) (hf:fresh.length≤2^40) (s:AS):
  aj prog Γ 48 [aW t,.v (.int .i64 i),.v (.int .i64 sd),al d .any,al ctx .any,aG fresh .any] s
   (fun r s'=>r=.eu [.agg (if stepG d i (bC t sd fresh)=true then gI t d ctx i (bC t sd fresh) else⟨0,[]⟩).cells,.v (.int .i64 (if stepG d i (bC t sd fresh)=true then 0 else 30))]∧s'=s):=by
 refine aa func48 rfl ntmps48 results48 (by simp) ?_;have hRm:∀x∈bC t sd fresh,∃m:Nat,x=(m:Int)∧m<t.length∧(nd t m).kind≠0∧kT m sd:=fun x h=>CK hr fresh I9 h;have Pb:(bC t sd fresh).length≤2^40:=by
  unfold bC;split
  ·have h1:=iM hr fresh (lv (sd:Int).toNat) (sd:Int).toNat;have h2:=nn (sd:Int).toNat;have h3:=Nat.pow_le_pow_right (show 0<2 by decide) h2;omega
  ·exact Nat.zero_le _
 have xcr:t.length≤63:=by
  rcases bG (t:=t) with h|h
  ·exact absurd h hr.1
  ·have:=h.1.le;omega
 have dV:=fun s=>jt (Γ:=Γ) hG t ht sd fresh (by omega) s;have kL:=fun s=>l7 (Γ:=Γ) dU gy d hd i (by omega) s;have tG:=lB d i;have nr:=fun s=>mY (Γ:=Γ) dU gy (b7 d (i+1)) (by omega) s;have LN:=fun s=>eX (Γ:=Γ) (pX (b7 d (i+1))) (Ip _) s;have Tj:=fun n s=>cn (Γ:=Γ) n s;have YL:=fun n(hn:n<256)s=>CM (Γ:=Γ) dU gy d hd i n hi hn s;have Bo:=fun jc(hp:vW jc)sd(h:sd.length≤2^36)s=>LO (Γ:=Γ) dU gy jc hp eM ctx (b7 d (i+1)) sd (by decide) CA (by omega) h s;generalize bC t sd fresh=RT at *
 obtain⟨R,hR⟩:∃R,R=(if stepG d i RT=true then gI t d ctx i RT else⟨0,[]⟩):=⟨_,rfl⟩;obtain⟨RE,hRE⟩:∃RE,RE=(if stepG d i RT=true then(0:Int) else 30):=⟨_,rfl⟩;rw[←hR,←hRE];have fW:stepG d i RT=false→R=⟨0,[]⟩∧RE=30:=(fun h=>by rw[hR,hRE,h];exact⟨rfl,rfl⟩);have eY:stepG d i RT=true→R=gI t d ctx i RT∧RE=0:=(fun h=>by rw[hR,hRE,h];exact⟨rfl,rfl⟩);clear hR hRE;obtain⟨L,hL⟩:∃L,L=RT.map fun n=>tI t d ctx i n.toNat:=⟨_,rfl⟩;have hSS:gI t d ctx i RT=⟨lZ (b7 d (i+1)),L⟩:=(by rw[hL];rfl);rw[hSS] at eY;have YK:L.length=RT.length:=(by rw[hL,List.length_map]);have hLt:∀k,(h:k<RT.length)→L.take (k+1)=L.take k++[tI t d ctx i (RT[k]).toNat]:=by
  intro k h;rw[List.take_succ_eq_append_getElem (by omega)];simp[hL]
 have xcs:∀k,(h:k<RT.length)→vV d i RT[k]=false→stepG d i RT=false:=by
  intro k h hb;unfold stepG;rw[Bool.and_eq_false_iff];right;rw[List.all_eq_false];exact⟨RT[k],List.getElem_mem h,by rw[hb];decide⟩
 have YM:iX (lZ (b7 d (i+1)))=true→(∀k,(h:k<RT.length)→vV d i RT[k]=true)→stepG d i RT=true:=by
  intro h1 h2;unfold stepG;rw[h1,Bool.true_and,List.all_eq_true];intro x hx;obtain⟨k,hk,rfl⟩:=List.mem_iff_getElem.1 hx;exact h2 k hk
 have YN:iX (lZ (b7 d (i+1)))=false→stepG d i RT=false:=by
  intro h;unfold stepG;rw[h];rfl
 generalize hpk:lZ (b7 d (i+1))=pk at *
 have xcu:3^pX (b7 d (i+1))%PP=pk:=hpk;rw[xcu] at LN;have hsc:∀m:Nat,tI t d ctx i m=⟨iN (iO d i m),iP (nd t m).key eM ctx (b7 d (i+1)) (iO d i m)⟩:=fun _=>rfl;generalize b7 d (i+1)=sec at *
 have xx:∀a b:AV,nG 2 [a,b]=[a,b]:=fun _ _=>rfl;unfold aG at *
 unfold al at *
 unfold aW at *
 refine jQ fun K hK=>?_;intro yg UQ;refine hK _ _ ?_;clear hK K;refine jK (kL _) ?_;rintro s1 rfl;refine jQ fun K hK=>?_;refine ad (nr _) ?_;rintro r s2 ⟨rfl,rfl⟩;refine jM ?_;refine ad (LN _) ?_;rintro r s3 ⟨rfl,rfl⟩;refine jM ?_;intro rZ Ad;refine hK _ _ ?_;clear hK K;obtain⟨cY,Ae,GP,hle,Ad⟩:=LM (W:=[.v (.int .u64 pk),.v (.slice none 0 0)]) UQ Ad;generalize (s.set yg [.v (.int .u64 0),.v (.slice none 0 0)]).set rZ [.v (.int .u64 pk),.v (.slice none 0 0)]=s3 at *
 have bX:∀(E:Env)(s5:AS),stepG d i RT=false→s.le s5→s5.aw yg=some [.v (.int .u64 0),.v (.slice none 0 0)]→E 12=.ptr yg 0→E 13=.v (.int .i64 30)→ck prog (#[ResultVar.cell 12 76,ResultVar.tmp 13]:Array ResultVar).toList (fun r s'=>r=.eu [.agg R.cells,.v (.int .i64 RE)]∧s'=s) .ret E s5:=by
  intro E s5 hb fY ho f12 f13;obtain⟨rfl,rfl⟩:=fW hb;refine lQ (o:=yg) (off:=0) f12 ho (by rw[T.c76];decide) (by simp only[↓DN,Qa,Qb,Qc,Qd,Qe,Qf,Qg,Qh,reduceCtorEq,↓reduceIte,Na,Nb,Nc,Nk,Nf,Ng,Nh,Za,Zb,Zc,TT];rfl) ?_;rw[f13];exact⟨_,s,AV.da (AV.pE (gE.aE.cons (AV.aE.refl _) (gE.aE.cons AV.aM gE.aE.nil))) (AV.aE.refl _),fY,rfl,rfl⟩
 have GQ:=Tj pk;obtain⟨q,hq⟩:∃q,q=iX pk:=⟨_,rfl⟩;have LP:(decide (2≤(pk:Int))&&decide ((pk:Int)≤2305843009213693949))=q:=hq.symm;rw[LP] at GQ;rw[←hq] at YN YM;refine wK fun K hK=>?_;refine jS @GP fun K hK=>?_;refine ad (GQ _) ?_;rintro r s4 ⟨rfl,rfl⟩;cases q with
 |false=>
  refine jR hK ?_;clear hK K;refine jE ?_;refine jB @Ae ?_;refine a7 ?_;try simp only[aA,aq]
  exact bX _ _ (YN rfl) (uZ hle UQ _) (AS.af _ _ _) rfl rfl
 |true=>
  refine jR hK ?_;clear hK K;refine jF ?_;refine ab ?_;refine hK _ _ ?_;clear hK K;refine wK fun K hK=>?_;refine jK (dV _) ?_;rintro s5 rfl;refine ag ?_;refine aD (fun E s2=>∃(k:Nat)(z:AV),k≤RT.length∧(∀j,(h:j<RT.length)→j<k→vV d i RT[j]=true)∧E 37=.v (.int .i64 k)∧E 36=.v (.int .i64 RT.length)∧E 35=.sl 1 RT.length (RT.map aJ) .any∧E 0=.sl 5 t.length (aK ah.cells t) .any∧E 1=.v (.int .i64 i)∧E 3=.sl 1 d.length (d.map ae) .any∧E 4=.sl 1 ctx.length (ctx.map ae) .any∧
    E 12=.ptr yg 0∧E 14=.sl 1 sec.length (sec.map ae) .any∧E 15=.ptr rZ 0∧s2.aw yg=some [.v (.int .u64 0),.v (.slice none 0 0)]∧s2.aw rZ=some [.v (.int .u64 pk),z]∧cZ 2 s s2 z k (aK eH.cells (L.take k))∧s.le s2)
   (fun E _=>match E 37 with |.v (.int _ k)=>RT.length-k.toNat|_=>0) ?_ ?_
  ·exact⟨0,bU,Nat.zero_le _,fun j _ h=>absurd h (Nat.not_lt_zero _),rfl,rfl,rfl,rfl,rfl,rfl,rfl,rfl,rfl,rfl,Ae,GP,cZ.nil _ _ _,hle⟩
  ·clear Ae GP hle;rintro E1 s6 ⟨k,z,hk,F4,N6,RH,g35,g0,g1,g3,g4,g12,g14,g15,Ae,GP,hz,hle⟩ -
   by_cases tF:k<RT.length
   ·have bJ:((k:Nat):Int)<((RT.length:Nat):Int):=(by omega);have cA:(0:Int)≤((k:Nat):Int):=(by omega);obtain⟨m,hm,hmt,Gw,-⟩:=hRm RT[k] (List.getElem_mem tF);have N7:(List.take 1 (List.drop k (RT.map aJ)))[0]? =some (AV.v (.int .i64 (m:Nat))):=by
     simp[List.getElem?_take,tF,aJ,hm]
    have eo:=hLt k tF;have hfb:=xcs k tF;have LQ:vV d i RT[k]=iX (iN (iO d i m)):=(by rw[hm];rfl);rw[hm,Int.toNat_natCast,hsc] at eo;have c1:=fun s=>YL m (by omega) s;have c2:=fun s=>Bo (nd t m).key (Ti hr Gw) (iO d i m) (by have:=LR d i m;omega) s;have c3:=fun s=>Tj (iN (iO d i m)) s;have cT:=dh hmt;have Tk:=F4;generalize iN (iO d i m)=fr at *
    generalize iP (nd t m).key eM ctx sec (iO d i m)=tx at *
    generalize iO d i m=sd2 at *
    have c2':∀s,aj prog Γ 107 [.v (.int .u64 (nd t m).key),.sl 1 4 [.v (.int .u8 112),.v (.int .u8 97),.v (.int .u8 116),.v (.int .u8 104)] .new,.sl 1 ctx.length (ctx.map ae) .any,.sl 1 sec.length (sec.map ae) .any,.sl 1 sd2.length (sd2.map ae) .any] s
      (fun r s'=>r=.eu [.agg [.v (.int .u64 fr),.sl 1 tx.length (tx.map ae) .any],.v (.int .i64 ((0:Nat):Int))]∧s'=s):=fun s=>
     aj.gF (gE.aE.cons (AV.aE.refl _) (gE.aE.cons (AV.bN (sp:=.new)) (gE.aE.refl _))) (c2 s)
    clear c2 F4;generalize nd t m=N at *
    obtain⟨n1,n2,n3,n4,n5⟩:=N;generalize aK ah.cells t=X at *
    unfold ah.cells at cT;simp only at c2';have ns:((m:Nat):Int)<((t.length:Nat):Int):=(by omega);have pb:(0:Int)≤((m:Nat):Int):=(by omega);have Ko:(((0:Nat):Int)==0)=true:=rfl;have e01:(((0:Nat):Int) != 0)=false:=rfl;refine jB (Ai @RH (Ai @N6 (decide_eq_true bJ))) ?_;refine wK fun K2 aU=>?_;refine jE ?_;refine ab ?_;refine aU _ _ ?_;clear aU K2;refine wK fun K3 bq=>?_;refine ag ?_;refine jB (Ai @g35 (Ai @N6 (Ai @bJ (Ai @cA @N7)))) ?_;refine pO T.mixed [17,18] [(1012,.sl 1 sd2.length (sd2.map ae) .any),(1013,.eu [.agg [.v (.int .u64 fr),.sl 1 tx.length (tx.map ae) .any],.v (.int .i64 ((0:Nat):Int))])] [0,1,2,3,4,5,6,7,8,9,10,11,12,13,14,15,16,17,18,19] (by kernel_rfl) ?_;intro K hK;simp only[↓xg,↓tu,↓nX,↓nZ,Nat.reduceAdd,↓nY,qu,nW,rQ,bE,DX,Nat.reduceBEq,List.toList_toArray,List.map_cons,List.map_nil,aN,↓DN,Qa,Qb,Qc,Qd,Qe,Qf,Qg,Qh,reduceCtorEq,↓reduceIte,Na,Nb,Nc,Nk,Nf,Ng,Nh,Za,Zb,Zc,TT,g0,g1,g3,g4,g14,ns,pb,cT,List.replicate_succ,List.replicate_zero];refine H9 c1 (H9 c2' ?_);intro o ho;refine hK _ _ ?_;clear hK K;have YO:rZ≠o:=(fun e=>by subst e;rw[GP] at ho;cases ho);have YP:yg≠o:=(fun e=>by subst e;rw[Ae] at ho;cases ho);have JD:=(AS.ao s6 YP [.v (.int .u64 fr),.sl 1 tx.length (tx.map ae) .any]).trans Ae;have GI:=(AS.ao s6 YO [.v (.int .u64 fr),.sl 1 tx.length (tx.map ae) .any]).trans GP;have UL:=AS.af s6 o [.v (.int .u64 fr),.sl 1 tx.length (tx.map ae) .any];have UR:s.le (s6.set o [.v (.int .u64 fr),.sl 1 tx.length (tx.map ae) .any]):=AS.aF hle (none_le hle ho) _;have kz:cZ 2 s (s6.set o [.v (.int .u64 fr),.sl 1 tx.length (tx.map ae) .any]) z k (aK eH.cells (L.take k)):=hz.own fun t e h _=>h;generalize s6.set o [.v (.int .u64 fr),.sl 1 tx.length (tx.map ae) .any]=s7 at *
    clear ho Ae GP hle hz YP YO;refine wK fun K4 dM=>?_;refine jS (Ai @Ko @UL) fun K hK=>?_;refine ad (c3 _) ?_;rintro r s8 ⟨rfl,rfl⟩;obtain⟨q2,LS⟩:∃q2,q2=iX fr:=⟨_,rfl⟩;have hq3:(decide (2≤(fr:Int))&&decide ((fr:Int)≤2305843009213693949))=q2:=LS.symm;rw[hq3];cases q2 with
    |false=>
     simp only[↓cx,↓bW,bE,↓xg,↓tu,↓nX,↓nZ,Nat.reduceAdd,↓nY,qu,nW,rQ,bE,DX,Nat.reduceBEq,List.toList_toArray,List.map_cons,List.map_nil,aN,DX,Nat.reduceBEq,↓DN,Qa,Qb,Qc,Qd,Qe,Qf,Qg,Qh,reduceCtorEq,↓reduceIte,Na,Nb,Nc,Nk,Nf,Ng,Nh,Za,Zb,Zc,TT];refine hK _ _ ?_;clear hK K;refine jE ?_;refine jT fun K hK=>?_;refine hK _ _ (dM _ _ ?_);clear hK K dM K4;have e30:((30:Int) != 0)=true:=rfl;refine wK fun K5 ju=>?_;refine jB @e30 ?_;refine jE ?_;refine jB (Ai @g12 @JD) ?_;refine a7 ?_;try simp only[aA,aq]
     exact bX _ _ (hfb (by rw[LQ,←LS])) (uZ UR UQ _) (AS.af _ _ _) g12 rfl
    |true=>
     refine jR hK ?_;clear hK K;refine jF ?_;refine ab ?_;refine dM _ _ ?_;clear dM K4;refine wK fun K5 ju=>?_;refine jB @e01 ?_;refine jF ?_;refine ab ?_;refine ju _ _ ?_;clear ju K5;have qG:∀(E:Env)(s9:AS)(z':AV),E 37=.v (.int .i64 k)→E 36=.v (.int .i64 RT.length)→E 35=.sl 1 RT.length (RT.map aJ) .any→E 0=.sl 5 t.length X .any→E 1=.v (.int .i64 i)→E 3=.sl 1 d.length (d.map ae) .any→E 4=.sl 1 ctx.length (ctx.map ae) .any→
       E 12=.ptr yg 0→E 14=.sl 1 sec.length (sec.map ae) .any→E 15=.ptr rZ 0→s9.aw yg=some [.v (.int .u64 0),.v (.slice none 0 0)]→s9.aw rZ=some [.v (.int .u64 pk),z']→cZ 2 s s9 z' (k+1) (aK eH.cells (L.take (k+1)))→s.le s9→K3 E s9:=by
      intro E s9 z' f37 f36 f35 f0 f1 f3 f4 f12 f14 f15 j12 j15 jz YQ;refine bq _ _ ?_;clear bq K3;refine jD (Ai @f37 (bd k (by omega))) ?_;refine⟨⟨k+1,z',tF,?_,rfl,f36,f35,f0,f1,f3,f4,f12,f14,f15,j12,j15,jz,YQ⟩,?_⟩
      ·intro j hj US;by_cases e:j=k
       ·subst e;rw[LQ,←LS]
       ·exact Tk j hj (by omega)
      ·simp only[N6,aB,↓reduceIte];omega
     clear bq;rcases kz with⟨rfl,fD,sF⟩|⟨tk,ek,rfl,pc,tJ⟩
     ·refine wE fun K hK=>?_;simp only[↓DN,Qa,Qb,Qc,Qd,Qe,Qf,Qg,Qh,reduceCtorEq,↓reduceIte,Na,Nb,Nc,Nk,Nf,Ng,Nh,Za,Zb,Zc,TT,g15,GI,UL,bU,xx];intro tk pc;have LU:=aZ UR pc;refine hK _ _ (qG _ _ (.sl 2 1 [.v (.int .u64 fr),.sl 1 tx.length (tx.map ae) .any] (.own tk 0)) N6 RH g35 g0 g1 g3 g4 g12 g14 g15 ?_ ?_ ?_ ?_)
      ·rw[AS.ao _ (Ne.symm cY)];exact JD
      ·exact AS.af _ _ _
      ·refine .inr ⟨tk,0,?_,by simp[AS.bA,AS.set],LU⟩;rw[eo,ke,sF];subst fD;rfl
      ·exact AS.aF (AS.bn UR LU 0) Ad _
     ·refine jU (Ai @g15 (Ai @GI (Ai @UL (Ai @pc @xx)))) fun K hK=>?_;refine⟨by omega,by omega,?_⟩;refine hK _ _ (qG _ _ (.sl 2 (k+1) (aK eH.cells (L.take k)++[.v (.int .u64 fr),.sl 1 tx.length (tx.map ae) .any]) (.own tk (ek+1))) N6 RH g35 g0 g1 g3 g4 g12 g14 g15 ?_ ?_ ?_ ?_)
      ·rw[AS.ao _ (Ne.symm cY)];exact JD
      ·exact AS.af _ _ _
      ·exact .inr ⟨tk,ek+1,by rw[eo,ke];rfl,by simp[AS.bA,AS.set],tJ⟩
      ·exact AS.aF (AS.bn UR tJ (ek+1)) Ad _
   ·have bJ:¬((k:Nat):Int)<((RT.length:Nat):Int):=(by omega);obtain rfl:k=RT.length:=(by omega);obtain⟨rfl,rfl⟩:=eY (YM rfl fun j h=>F4 j h h);refine jB (Ai @RH (Ai @N6 (decide_eq_false bJ))) ?_;refine wK fun K2 aU=>?_;refine jF ?_;refine aC ?_;simp only[aA,aq,if_true];refine hK _ _ ?_;clear hK aU K2 K;rw[List.take_of_length_le (by omega)] at hz;refine jS (Ai @g15 (Ai @g12 (Ai @GP @Ae))) fun K hK=>?_;refine⟨hz.one,hK _ _ ?_⟩;clear hK K;refine a7 ?_;try simp only[aA,aq]
    refine lQ (o:=yg) (off:=0) g12 (AS.af _ _ _) (by rw[T.c76];decide) (by simp only[↓DN,Qa,Qb,Qc,Qd,Qe,Qf,Qg,Qh,reduceCtorEq,↓reduceIte,Na,Nb,Nc,Nk,Nf,Ng,Nh,Za,Zb,Zc,TT];rfl) ?_;unfold cy.cells;simp only;rw[YK];exact⟨_,s,AV.da (AV.pE (gE.aE.cons (AV.aE.refl _) (gE.aE.cons hz.aE gE.aE.nil))) (AV.aE.refl _),AS.aF hle UQ _,rfl,rfl⟩
end Go.Proofs.YtbiefppedlodiaaGreatDoor
namespace Go.AM
open Go
def dA:AV→Option Nat
  |.sl _ _ _ (.own t _)=>some t
  |_=>none
def gl(sz:Nat)(s0 s:AS)(x:AV)(n:Nat)(cs:List AV)(x0:AV)(n0:Nat)(c0:List AV):Prop:=
  (x=x0∧n=n0∧cs=c0)∨∃t e,x=.sl sz n cs (.own t e)∧s.own t=some e∧s0.own t=none
theorem gl.keep{sz n n0:Nat}{s0 s s':AS}{x x0:AV}{cs c0:List AV}(h:gl sz s0 s x n cs x0 n0 c0)(k:∀t,dA x=some t→s'.own t=s.own t):gl sz s0 s' x n cs x0 n0 c0:=by
  rcases h with h|⟨t,e,rfl,h1,h2⟩
  · exact .inl h
  · exact .inr ⟨t,e,rfl,(k t rfl).trans h1,h2⟩
theorem vX{s:AS}{t t' g:Nat}(h:t'≠t):(s.bA t g).own t'=s.own t':=by simp[AS.bA,aB,h]
theorem gl.bA{sz n n0 g tk:Nat}{s0 s:AS}{x x0:AV}{cs c0:List AV}(h:gl sz s0 s x n cs x0 n0 c0)(k:dA x≠some tk):gl sz s0 (s.bA tk g) x n cs x0 n0 c0:=
  h.keep fun t ht=>vX fun e=>k (e ▸ ht)
theorem gl.Iq{sz n n0 g tk o:Nat}{s0 s:AS}{x x0:AV}{cs c0 ds:List AV}(h:gl sz s0 s x n cs x0 n0 c0)(k:dA x≠some tk):gl sz s0 ((s.bA tk g).set o ds) x n cs x0 n0 c0:=
  h.keep fun t ht=>by
    show(s.bA tk g).own t=_;exact vX fun e=>k (e ▸ ht)
theorem gl.new{sz n n0 t e:Nat}{s0 s:AS}{x0:AV}{cs c0:List AV}(h0:s0.own t=none)(h:s.own t=some e):gl sz s0 s (.sl sz n cs (.own t e)) n cs x0 n0 c0:=.inr ⟨t,e,rfl,h,h0⟩
theorem gl.fresh{sz n n0 tk:Nat}{s0 s:AS}{x x0:AV}{cs c0:List AV}(h:gl sz s0 s x n cs x0 n0 c0)(h0:dA x0=none)(k:s.own tk=none):dA x≠some tk:=by
  rcases h with⟨rfl,-⟩|⟨t,e,rfl,h1,h2⟩
  · rw[h0];intro h;cases h
  · intro q;simp only[dA,Option.some.injEq] at q;subst q;rw[k] at h1;cases h1
theorem gl.aE{sz n n0:Nat}{s0 s:AS}{x x0:AV}{cs c0:List AV}(h:gl sz s0 s x n cs x0 n0 c0)(k:x0.aE (.sl sz n0 c0 .any)):x.aE (.sl sz n cs .any):=by
  rcases h with⟨rfl,rfl,rfl⟩|⟨t,e,rfl,h1,h2⟩
  · exact k
  · exact AV.bN
theorem oL{P:Program}{E:Env}{s:AS}{ca:AV→AS→Prop}{a T t1 t2 t3 t4 o off:Nat}{cs:List AV}{v:AV}(h1:E a=.ptr o off)(h2:s.aw o=some cs)(h3:P.cellsOf T≠0)(h4:oC P T (cs.drop off)=some v)
    (h:∃r s',(AV.eu [v,E t1,E t2,E t3,E t4]).aE r∧s'.le s∧ca r s'):ck P [.cell a T,.tmp t1,.tmp t2,.tmp t3,.tmp t4] ca .ret E s:=by
  simp only[ck,bz,bF,dm,h1,h2,if_neg h3,h4];exact h
theorem AV.Bp{l m:List AV}(h:gE.aE l m):(AV.eu l).aE (.eu m):=by
  intro G v hv;simp only[av] at hv⊢;obtain⟨vs,rfl,h1⟩:=hv;exact⟨vs,rfl,h G vs h1⟩
theorem eh{P:Program}{Γ:Nat→List AV}{N:Nat}{E:Env}{s:AS}{Q:Exit→Env→AS→Prop}{id:Nat}{L:List Oper}{y:Code}
    (h:∀K:Env→AS→Prop,(∀E s,Gy P Γ N y Q E s→K E s)→AY P Γ N L.toArray L K E s):Gy P Γ N (.seq (.region id L.toArray false) y) Q E s:=
  cf fun K hK=>awp_reg_end fun K2 aU=>h K2 fun E s k=>aU E s (hK E s k)
end Go.AM
namespace Go.Proofs.YtbiefppedlodiaaGreatDoor
open Go Go.AM Go.Proofs Tryz
variable{Γ:Nat→List AV}
def yw:List UInt8:=[108,101,97,102]
def u6(d:List UInt8):Nat:=cw (Kdf.derive d yw)
def jv(d:List UInt8):Nat:=3^u6 d%PP
def jx(t:List ah)(lf:Nat)(fresh:List Int)(i:Nat):List Int:=bC t (bY (nodeAt lf (aI t) i):Nat) fresh
def bI(d:List UInt8)(m:Nat):List Nat:=(List.range m).map fun i=>lZ (b7 d (i+1))
def bQ(t:List ah)(lf:Nat)(d ctx:List UInt8)(fresh:List Int)(m:Nat):List cy:=(List.range m).map fun i=>gI t d ctx i (jx t lf fresh i)
def r3(d:List UInt8)(gG:List Nat)(i:Nat):bu:=⟨(gG.getD i 0:Nat),pX (b7 d (i+1))⟩
def cu(lf:Nat)(d:List UInt8)(gG:List Nat)(m:Nat):List bu:=⟨(2*lf:Nat),u6 d⟩::(List.range m).map (r3 d gG)
def oM(t:List ah)(lf:Nat)(d:List UInt8)(fresh:List Int)(m:Nat):Bool:=(List.range m).all fun i=>stepG d i (jx t lf fresh i)
structure pY where
 p:dN
 t:List ah
 held:List bu
 GR:List UInt8
def pY.no:pY:=⟨⟨0,[],[]⟩,[],[],[]⟩
def gY(t:List ah)(lf:Nat)(d:List UInt8)(fresh:List Int):List ah:=eJ t lf (jv d) (bI d (az lf (aI t)).length) fresh
def fk(t:List ah)(lf:Nat)(d ctx:List UInt8)(fresh:List Int):pY:=
 ⟨⟨jv d,(nd (gY t lf d fresh) (2*lf)).parent,bQ t lf d ctx fresh (az lf (aI t)).length⟩,gY t lf d fresh,cu lf d (az lf (aI t)) (az lf (aI t)).length,b7 d ((az lf (aI t)).length+1)⟩
def l8(t:List ah)(leaf:Int)(d ctx:List UInt8)(fresh:List Int):pY×Int:=
 if lj t leaf≠0 then(pY.no,lj t leaf) else if d.length≠32 then(pY.no,2) else if iX (jv d)=false then(pY.no,30) else
 if oM t leaf.toNat d fresh (az leaf.toNat (aI t)).length=false then(pY.no,30) else(fk t leaf.toNat d ctx fresh,0)
theorem Af(d:List UInt8)(i:Nat):bI d (i+1)=bI d i++[lZ (b7 d (i+1))]:=by simp[bI,List.range_succ]
theorem yx(t:List ah)(lf:Nat)(d ctx:List UInt8)(fresh:List Int)(i:Nat):bQ t lf d ctx fresh (i+1)=bQ t lf d ctx fresh i++[gI t d ctx i (jx t lf fresh i)]:=by simp[bQ,List.range_succ]
theorem Ag(lf:Nat)(d:List UInt8)(gG:List Nat)(i:Nat):cu lf d gG (i+1)=cu lf d gG i++[r3 d gG i]:=by simp[cu,List.range_succ]
theorem Ph(d:List UInt8):u6 d<2^64:=by have:=qz (Kdf.derive d yw);unfold u6;omega
def yy(M:pY)(e:Int):AV:=.eu [.agg M.p.cells,aW M.t,eg M.held,al M.GR .any,.v (.int .i64 e)]
theorem CN{t:List ah}{lf i:Nat}(bT:Fit (aI t))(ev:lf<aI t)(kq:t.length=2*aI t-1)(hi:i<(az lf (aI t)).length):bY (nodeAt lf (aI t) i)<t.length:=by
 obtain⟨h1,h2,-⟩:=pZ bT ev hi;have:=(u7 bT h1 h2).2.2.2.2;omega
theorem LV(t:List ah)(leaf:Nat)(keys:List Nat)(fresh:List Int):∀i,(mX t leaf keys fresh i).2.length≤32
 |0=>Nat.zero_le _
 |i+1=>by
  simp only[mX];unfold od;split
  ·rw[Sha.du];decide
  ·exact Nat.zero_le _
theorem Pj(l:List ah){k:Nat}(h:k<l.length)(x:ah):nd (l.set k x) k=x:=by simp[nd,List.getD,h]
theorem JE(t:List ah)(leaf key:Nat)(keys:List Nat)(fresh:List Int)(h:2*leaf<t.length):(nd (eJ t leaf key keys fresh) (2*leaf)).parent.length≤32:=by
 unfold eJ;simp only;rw[Pj _ (by rw[gJ];exact h)];exact LV ..
theorem tK(dU:Γ 0=eA Sha.H0)(gy:Γ 1=Sha.K.map wV)(hG:Γ 3=fi.map oJ)(t:List ah)(ht:eI t)(LJ:t.length≤2^30)(hw:∀n∈t,lX n)(leaf:Int)
  (d ctx:List UInt8) (hd:d.length≤2^36) (CA:ctx.length≤2^30) (fresh:List Int) (hf:fresh.length≤2^40) (s:AS):
  aj prog Γ 10 [aW t,.v (.int .i64 leaf),al d .any,al ctx .any,aG fresh .any] s (fun r s'=>r=yy (l8 t leaf d ctx fresh).1 (l8 t leaf d ctx fresh).2∧s'=s):=by
 refine pJ func10 rfl ntmps10 results10 (by simp) ?_;have EG:=fun s=>pS (Γ:=Γ) hG t ht leaf s;have cD:=fun s=>fE (Γ:=Γ) hG t ht s;have Tj:=fun n s=>cn (Γ:=Γ) n s;obtain⟨R,hR⟩:∃R,R=l8 t leaf d ctx fresh:=⟨_,rfl⟩;rw[←hR];obtain⟨R1,R2⟩:=R;simp only;unfold l8 at hR;have fW:∀(rf:Nat)(e:Int),R1=pY.no→R2=e→∀(E:Env)(s5:AS),s.le s5→s5.aw rf=some [.v (.int .u64 0),.v (.slice none 0 0),.v (.slice none 0 0)]→E 10=.ptr rf 0→E 11=.v (.slice none 0 0)→E 12=.v (.slice none 0 0)→E 13=.v (.slice none 0 0)→E 14=.v (.int .i64 e)→
   ck prog (#[ResultVar.cell 10 32,ResultVar.tmp 11,ResultVar.tmp 12,ResultVar.tmp 13,ResultVar.tmp 14]:Array ResultVar).toList (fun r s'=>r=yy R1 R2∧s'=s) .ret E s5:=by
  intro rf e h1 h2 E s5 hle ho f10 f11 f12 f13 f14;subst h1 h2;refine oL (o:=rf) (off:=0) f10 ho (by rw[T.c32];decide) (by simp only[↓DN,Qa,Qb,Qc,Qd,Qe,Qf,Qg,Qh,reduceCtorEq,↓reduceIte,Na,Nb,Nc,Nk,Nf,Ng,Nh,Za,Zb,Zc,TT];rfl) ?_;rw[f11,f12,f13,f14];exact⟨_,s,AV.Bp (.cons (AV.pE (.cons (AV.aE.refl _) (.cons AV.aM (.cons AV.aM .nil)))) (.cons AV.aM (.cons AV.aM (.cons AV.aM (.cons (AV.aE.refl _) .nil))))),hle,rfl,rfl⟩
 unfold aW at EG cD⊢;unfold aG al;refine cf ?_;intro K1 fQ;refine jT fun K hK=>?_;intro rf Pk;refine hK _ _ (fQ _ _ ?_);clear hK K fQ K1;have RI:=AS.af s rf [.v (.int .u64 0),.v (.slice none 0 0),.v (.slice none 0 0)];have hle:=AS.aF (AS.le.refl s) Pk [.v (.int .u64 0),.v (.slice none 0 0),.v (.slice none 0 0)];generalize s.set rf [.v (.int .u64 0),.v (.slice none 0 0),.v (.slice none 0 0)]=s1 at *
 refine cf ?_;intro K1 fQ;refine jK (EG _) ?_;rintro s2 rfl;by_cases he:lj t leaf=0
 ·have e0:(lj t leaf != 0)=false:=(by simp[he]);rw[if_neg (by rw[he];simp)] at hR;refine jB @e0 ?_;refine jF ?_;refine ab ?_;refine fQ _ _ ?_;clear fQ K1;obtain⟨hr,hm⟩:=fX.1 he;obtain⟨lf,rfl⟩:=Int.eq_ofNat_of_zero_le hm.1;obtain⟨bT,kq⟩:Fit (aI t)∧t.length=2*aI t-1:=by
   rcases bG (t:=t) with h|h
   ·exact absurd h hr.1
   ·exact h
  have oZ:=bT.le;have ev:lf<aI t:=by
   have:=hm.2.1;omega
  refine cf ?_;intro K1 fQ;by_cases qH:d.length=32
  ·have e2:((d.length:Int) != 32)=false:=(by rw[qH];rfl);rw[if_neg (fun k=>k qH)] at hR;refine jB @e2 ?_;refine jF ?_;refine ab ?_;refine fQ _ _ ?_;clear fQ K1;have Tl:=fun s=>lk (Γ:=Γ) dU gy d yw hd (by decide) s;have nr:=fun s=>og (Γ:=Γ) dU gy (Kdf.derive d yw) (by rw[iQ];decide) s;have LN:=fun s=>eX (Γ:=Γ) (u6 d) (Ph d) s;have Ir:∀s,aj prog Γ 41 [al (Kdf.derive d yw) .any] s (fun r s'=>r=.v (.int .u64 (u6 d:Nat))∧s'=s):=nr;have Is:∀s,aj prog Γ 43 [.v (.int .u64 (u6 d:Nat))] s (fun r s'=>r=.v (.int .u64 (jv d:Nat))∧s'=s):=LN;clear nr LN;have GQ:=fun s=>Tj (jv d) s;generalize Kdf.derive d yw=dl at *
   obtain⟨ok,iZ⟩:∃ok,ok=u6 d:=⟨_,rfl⟩;obtain⟨op,ib⟩:∃op,op=jv d:=⟨_,rfl⟩;rw[←iZ] at Ir Is;rw[←ib] at Is GQ hR;unfold al yw at Tl;unfold al at Ir;refine eh ?_;intro K hK;refine jO ?_;refine ad (Tl _) ?_;rintro r s3 ⟨rfl,rfl⟩;refine jM ?_;refine ad (Ir _) ?_;rintro r s4 ⟨rfl,rfl⟩;refine jR hK ?_;clear hK K;refine eh ?_;intro K hK;refine jO ?_;refine ad (Is _) ?_;rintro r s5 ⟨rfl,rfl⟩;refine jM ?_;intro DC q17;refine hK _ _ ?_;clear hK K;have cY:DC≠rf:=(fun e=>by subst e;rw[RI] at q17;cases q17);have k17:s5.aw DC=none:=q17;have YR:=none_le hle k17;have RJ:=(AS.ao s5 (Ne.symm cY) [.v (.int .u64 op),.v (.slice none 0 0),.v (.slice none 0 0)]).trans RI;have Pl:=AS.af s5 DC [.v (.int .u64 op),.v (.slice none 0 0),.v (.slice none 0 0)];have YQ:=AS.aF hle YR [.v (.int .u64 op),.v (.slice none 0 0),.v (.slice none 0 0)];generalize s5.set DC [.v (.int .u64 op),.v (.slice none 0 0),.v (.slice none 0 0)]=s6 at *
   clear RI hle q17 k17;refine cf ?_;intro K1 fQ;obtain⟨q,hq⟩:∃q,q=iX op:=⟨_,rfl⟩;have LP:(decide (2≤(op:Int))&&decide ((op:Int)≤2305843009213693949))=q:=hq.symm;rw[LP] at GQ;rw[←hq] at hR;refine jS @Pl fun K hK=>?_;refine ad (GQ _) ?_;rintro r s7 ⟨rfl,rfl⟩;cases q with
   |false=>
    rw[if_pos rfl] at hR;refine jR hK ?_;clear hK K;refine jE ?_;refine jB @RJ ?_;refine a7 ?_;try simp only[aA,aq]
    exact fW rf 30 (congrArg (·.1) hR) (congrArg (·.2) hR) _ _ (uZ YQ Pk _) (AS.af _ _ _) rfl rfl rfl rfl rfl
   |true=>
    rw[if_neg (by decide)] at hR;refine jR hK ?_;clear hK K;refine jF ?_;refine ab ?_;refine fQ _ _ ?_;clear fQ K1 GQ Is Ir Tl;rw[if_pos hr] at cD;have jb:=fun s=>iF (Γ:=Γ) hG lf (aI t) bT ev s;have Gi:=fun s=>iK (Γ:=Γ) hG lf (aI t) bT ev s;have GO:(aP (cQ lf (aI t))).length=(az lf (aI t)).length:=(by simp[br,cQ]);have Bn:=br (az lf (aI t));have xz:=fC bT ev;unfold aG at jb Gi;rw[Bn] at jb;rw[GO] at Gi;have xx:∀a b:AV,nG 2 [a,b]=[a,b]:=fun _ _=>rfl;refine eh ?_;intro K hK;refine jO ?_;refine ad (cD _) ?_;rintro r s8 ⟨rfl,rfl⟩;refine jR hK ?_;clear hK K;refine eh ?_;intro K hK;refine jP (Ai (bZ lf (by omega)) @xx) ?_;refine hK _ _ ?_;clear hK K;refine eh ?_;intro K hK;refine jO ?_;refine ad (Gi _) ?_;rintro r s9 ⟨rfl,rfl⟩;refine jR hK ?_;clear hK K;refine eh ?_;intro K hK;refine jO ?_;refine hK _ _ ?_;clear hK K;refine cf ?_;intro K1 fQ;refine jK (jb _) ?_;rintro Pf rfl;have N5:∀i,i<(az lf (aI t)).length→(List.take 1 (List.drop i ((aP (cQ lf (aI t))).map aJ)))[0]? =some (AV.v (.int .i64 (bY (nodeAt lf (aI t) i):Nat))):=by
     intro i hi;simp[List.getElem?_take,aP,cQ,hi,aJ]
    have hUg:∀i,i<(az lf (aI t)).length→(List.take 1 (List.drop i ((aP (az lf (aI t))).map aJ)))[0]? =some (AV.v (.int .i64 ((az lf (aI t)).getD i 0:Nat))):=by
     intro i hi;simp[List.getElem?_take,aP,hi,aJ]
    have dK:=fun i(hi:i<(az lf (aI t)).length)s=>CJ (Γ:=Γ) dU gy hG t ht hr i (by omega) (bY (nodeAt lf (aI t) i)) (CN bT ev kq hi) d ctx hd CA fresh hf s;have kL:=fun i(hi:i<(az lf (aI t)).length+1)s=>l7 (Γ:=Γ) dU gy d hd i (by omega) s;have LW:=fun key keys hk s=>tL (Γ:=Γ) dU gy hG t ht LJ hw hr lf hm key keys hk fresh hf s;unfold aW al aG at dK;unfold al at kL;obtain⟨H0,hH0⟩:∃H0,H0=AV.sl 2 1 [.v (.int .i64 (2*lf:Nat)),.v (.int .u64 ok)] .new:=⟨_,rfl⟩;have xh2:∀i,jx t lf fresh i=bC t (bY (nodeAt lf (aI t) i):Nat) fresh:=fun _=>rfl;have Tm:∀i,(hi:i<(az lf (aI t)).length)→∀s,aj prog Γ 48 [.sl 5 t.length (aK ah.cells t) .any,.v (.int .i64 i),.v (.int .i64 (bY (nodeAt lf (aI t) i):Nat)),.sl 1 d.length (d.map ae) .any,.sl 1 ctx.length (ctx.map ae) .any,.sl 1 fresh.length (fresh.map aJ) .any] s
      (fun r s'=>r=.eu [.agg (if stepG d i (jx t lf fresh i)=true then gI t d ctx i (jx t lf fresh i) else⟨0,[]⟩).cells,.v (.int .i64 (if stepG d i (jx t lf fresh i)=true then 0 else 30))]∧s'=s):=dK
    clear dK;rw[←hH0];rw[Int.toNat_natCast] at hR;generalize hXe:aK ah.cells t=X at *
    generalize hPe:az lf (aI t)=P at *
    generalize aP (cQ lf (aI t))=SD at *
    generalize aP P=U at *
    refine ag ?_;refine aD (fun E s2=>∃(i:Nat)(zP zK zH:AV),i≤P.length∧(∀j,j<i→stepG d j (jx t lf fresh j)=true)∧E 63=.v (.int .i64 i)∧E 62=.v (.int .i64 P.length)∧E 61=.sl 1 P.length (U.map aJ) .any∧E 0=.sl 5 t.length X .any∧E 1=.v (.int .i64 lf)∧E 2=.sl 1 d.length (d.map ae) .any∧E 3=.sl 1 ctx.length (ctx.map ae) .any∧E 4=.sl 1 fresh.length (fresh.map aJ) .any∧
      E 10=.ptr rf 0∧E 17=.ptr DC 0∧E 20=.sl 1 P.length (SD.map aJ) .any∧E 21=zK∧E 19=zH∧s2.aw rf=some [.v (.int .u64 0),.v (.slice none 0 0),.v (.slice none 0 0)]∧s2.aw DC=some [.v (.int .u64 op),.v (.slice none 0 0),zP]∧gl 2 s s2 zP i (aK cy.cells (bQ t lf d ctx fresh i)) bU 0 []∧gl 1 s s2 zK i ((bI d i).map dP) bU 0 []∧gl 2 s s2 zH (i+1) (aK bu.cells (cu lf d P i)) H0 1 [.v (.int .i64 (2*lf:Nat)),.v (.int .u64 ok)]∧
      (∀t,dA zP=some t→dA zK≠some t)∧(∀t,dA zP=some t→dA zH≠some t)∧(∀t,dA zK=some t→dA zH≠some t)∧s.le s2)
     (fun E _=>match E 63 with |.v (.int _ i)=>P.length-i.toNat|_=>0) ?_ ?_
    ·exact⟨0,bU,bU,H0,Nat.zero_le _,fun j h=>absurd h (Nat.not_lt_zero _),rfl,rfl,rfl,rfl,rfl,rfl,rfl,rfl,rfl,rfl,rfl,rfl,rfl,RJ,Pl,.inl ⟨rfl,rfl,rfl⟩,.inl ⟨rfl,rfl,rfl⟩,
      .inl ⟨rfl,rfl,by rw[iZ];rfl⟩,(fun t h=>by cases h),(fun t h=>by cases h),(fun t h=>by cases h),YQ⟩
    ·clear RJ Pl YQ;rintro E1 Pg ⟨i,zP,zK,zH,hi,F4,UT,LX,Tn,g0,g1,g2,g3,g4,g10,g17,g20,g21,g19,RJ,Pl,bP,bK,bH,dPK,dPH,dKH,hle⟩ -
     by_cases aY:i<P.length
     ·have bJ:((i:Nat):Int)<((P.length:Nat):Int):=(by omega);have cA:(0:Int)≤((i:Nat):Int):=(by omega);have I9:=N5 i aY;have hup:=hUg i aY;have c1:=fun s=>Tm i aY s;have c2:=fun s=>kL i (by omega) s;have tG:=lB d i;have c3:=fun s=>mY (Γ:=Γ) dU gy (b7 d (i+1)) (by omega) s;refine jB (Ai @LX (Ai @UT (decide_eq_true bJ))) ?_;refine wK fun K2 aU=>?_;refine jE ?_;refine ab ?_;refine aU _ _ ?_;clear aU K2;refine wK fun K3 bq=>?_;refine ag ?_;refine jB (Ai @Tn (Ai @UT (Ai @bJ (Ai @cA @hup)))) ?_;cases LQ:stepG d i (jx t lf fresh i) with
      |false=>
       have hRb:R1=pY.no∧R2=30:=by
        have hb:oM t lf d fresh P.length=false:=by
         unfold oM;rw[List.all_eq_false];exact⟨i,List.mem_range.2 aY,by rw[LQ];decide⟩
        rw[if_pos hb] at hR;exact⟨congrArg (·.1) hR,congrArg (·.2) hR⟩
       simp only[LQ,Bool.false_eq_true,if_false,cy.cells] at c1;refine aX 24 (by decide) ?_;intro K4 dM;refine jN (Ai @g20 (Ai @g0 (Ai @g2 (Ai @g3 (Ai @g4 (Ai @bJ (Ai @cA @I9))))))) ?_;refine ad (c1 _) ?_;rintro r s12 ⟨rfl,rfl⟩;refine jM ?_;intro o2 q2;refine dM _ _ o2 _ rfl q2 ?_;clear dM K4 q2;refine wK fun K4 dM=>?_;have e30:((30:Int) != 0)=true:=rfl;refine jB @e30 ?_;refine jE ?_;refine jB (Ai @g10 @RJ) ?_;refine a7 ?_;try simp only[aA,aq]
       exact fW rf 30 hRb.1 hRb.2 _ _ (uZ hle Pk _) (AS.af _ _ _) g10 rfl rfl rfl rfl
      |true=>
       simp only[LQ,if_true] at c1;have Ko:((0:Int) != 0)=false:=rfl;have gV:=yx t lf d ctx fresh i;have nU:=Af d i;have N8:=Ag lf d P i;have hSk:(gI t d ctx i (jx t lf fresh i)).key=lZ (b7 d (i+1)):=rfl;have hSh:r3 d P i=⟨(P.getD i 0:Nat),pX (b7 d (i+1))⟩:=rfl;rw[hSh] at N8;rw[←hSk] at nU;generalize gI t d ctx i (jx t lf fresh i)=S at *
       generalize pX (b7 d (i+1))=ky at *
       generalize b7 d (i+1)=sc at *
       obtain⟨sk,sl⟩:=S;simp only[cy.cells] at c1;simp only at nU;have hSc:aK cy.cells [⟨sk,sl⟩]=[.v (.int .u64 (sk:Nat)),.sl 2 sl.length (aK eH.cells sl) .any]:=rfl;generalize aK eH.cells sl=SL at *
       unfold al at c3;refine aX 24 (by decide) ?_;intro K4 dM;refine jN (Ai @g20 (Ai @g0 (Ai @g2 (Ai @g3 (Ai @g4 (Ai @bJ (Ai @cA @I9))))))) ?_;refine ad (c1 _) ?_;rintro r s12 ⟨rfl,rfl⟩;refine jM ?_;intro o2 q2;refine dM _ _ o2 _ rfl q2 ?_;clear dM K4 q2;refine wK fun K4 dM=>?_;refine jB @Ko ?_;refine jF ?_;refine ab ?_;refine dM _ _ ?_;clear dM K4;have YS:dA H0=none:=(by rw[hH0];rfl);have RK:∀(L:List Nat)(x:Nat),(L++[x]).map dP=L.map dP++[.v (.int .u64 (x:Nat))]:=(fun L x=>by simp[dP]);obtain⟨F,hF⟩:∃F:Env→Prop,F=fun E=>E 63=.v (.int .i64 i)∧E 62=.v (.int .i64 P.length)∧E 61=.sl 1 P.length (U.map aJ) .any∧E 0=.sl 5 t.length X .any∧E 1=.v (.int .i64 lf)∧E 2=.sl 1 d.length (d.map ae) .any∧E 3=.sl 1 ctx.length (ctx.map ae) .any∧E 4=.sl 1 fresh.length (fresh.map aJ) .any∧E 10=.ptr rf 0∧E 17=.ptr DC 0∧E 20=.sl 1 P.length (SD.map aJ) .any:=⟨_,rfl⟩;have hJ7:∀(E:Env)(s7:AS)(zP zK zH:AV),F E→E 21=zK→E 19=zH→s7.aw rf=some [.v (.int .u64 0),.v (.slice none 0 0),.v (.slice none 0 0)]→s7.aw DC=some [.v (.int .u64 op),.v (.slice none 0 0),zP]→gl 2 s s7 zP (i+1) (aK cy.cells (bQ t lf d ctx fresh (i+1))) bU 0 []→gl 1 s s7 zK (i+1) ((bI d (i+1)).map dP) bU 0 []→gl 2 s s7 zH (i+1+1) (aK bu.cells (cu lf d P (i+1))) H0 1 [.v (.int .i64 (2*lf:Nat)),.v (.int .u64 ok)]→
         (∀t,dA zP=some t→dA zK≠some t)→(∀t,dA zP=some t→dA zH≠some t)→(∀t,dA zK=some t→dA zH≠some t)→s.le s7→K3 E s7:=by
        intro E s7 zP zK zH fF f21 f19 GS GU Pm To Tp x1 x2 x3 Pn;rw[hF] at fF;obtain⟨f63,f62,f61,f0,f1,f2,f3,f4,f10,f17,f20⟩:=fF;refine bq _ _ ?_;clear bq K3;refine jD (Ai @f63 (bd i (by omega))) ?_;refine⟨⟨i+1,zP,zK,zH,aY,?_,rfl,f62,f61,f0,f1,f2,f3,f4,f10,f17,f20,f21,f19,GS,GU,Pm,To,Tp,x1,x2,x3,Pn⟩,?_⟩
        ·intro j hj;by_cases e:j=i
         ·subst e;exact LQ
         ·exact F4 j (by omega)
        ·simp only[UT,aB,↓reduceIte];omega
       clear bq;refine wK fun K5 ju=>?_;have YT:∀(E:Env)(s5:AS)(zP:AV),F E→E 22=.v (.int .i64 i)→E 23=.v (.int .i64 (P.getD i 0:Nat))→E 24=.cN [.v (.int .u64 sk),.sl 2 sl.length SL .any]→E 21=zK→E 19=zH→s5.aw rf=some [.v (.int .u64 0),.v (.slice none 0 0),.v (.slice none 0 0)]→s5.aw DC=some [.v (.int .u64 op),.v (.slice none 0 0),zP]→gl 2 s s5 zP (i+1) (aK cy.cells (bQ t lf d ctx fresh (i+1))) bU 0 []→gl 1 s s5 zK i ((bI d i).map dP) bU 0 []→gl 2 s s5 zH (i+1) (aK bu.cells (cu lf d P i)) H0 1 [.v (.int .i64 (2*lf:Nat)),.v (.int .u64 ok)]→
         (∀t,dA zP=some t→dA zK≠some t)→(∀t,dA zP=some t→dA zH≠some t)→(∀t,dA zK=some t→dA zH≠some t)→s.le s5→K5 E s5:=by
        intro E s5 zP fF f22 f23 f24 f21 f19 GS GU Pm To Tp x1 x2 x3 Pn;refine ju _ _ ?_;clear ju K5;clear bP bK bH;refine wK fun K6 kU=>?_;have YU:∀(E:Env)(s6:AS)(zK:AV),F E→E 22=.v (.int .i64 i)→E 23=.v (.int .i64 (P.getD i 0:Nat))→E 21=zK→E 19=zH→s6.aw rf=some [.v (.int .u64 0),.v (.slice none 0 0),.v (.slice none 0 0)]→s6.aw DC=some [.v (.int .u64 op),.v (.slice none 0 0),zP]→gl 2 s s6 zP (i+1) (aK cy.cells (bQ t lf d ctx fresh (i+1))) bU 0 []→gl 1 s s6 zK (i+1) ((bI d (i+1)).map dP) bU 0 []→gl 2 s s6 zH (i+1) (aK bu.cells (cu lf d P i)) H0 1 [.v (.int .i64 (2*lf:Nat)),.v (.int .u64 ok)]→
          (∀t,dA zP=some t→dA zK≠some t)→(∀t,dA zP=some t→dA zH≠some t)→(∀t,dA zK=some t→dA zH≠some t)→s.le s6→K6 E s6:=by
         intro E s6 zK fF f22 f23 f21 f19 GS GU Pm To Tp x1 x2 x3 Pn;refine kU _ _ ?_;clear kU K6;have RL:=fF;rw[hF] at RL;obtain⟨f63,f62,f61,f0,f1,f2,f3,f4,f10,f17,f20⟩:=RL;rcases Tp with⟨rfl,fD,NV⟩|⟨tk,ek,rfl,N9,iG⟩
         ·rw[hH0] at f19;refine jU (Ai @f2 (Ai @f22 (Ai @f19 @f23))) fun K hK=>?_;refine ad (c2 _) ?_;rintro r s8 ⟨rfl,rfl⟩;refine jM ?_;refine ad (c3 _) ?_;rintro r s9 ⟨rfl,rfl⟩;refine jN (Ai @f19 (Ai @f23 @xx)) ?_;intro tk eo;have LU:=aZ Pn eo;have fP:=Pm.fresh rfl eo;have fK:=To.fresh rfl eo;refine hK _ _ (hJ7 _ _ zP zK (.sl 2 2 [.v (.int .i64 (2*lf:Nat)),.v (.int .u64 ok),.v (.int .i64 (P.getD i 0:Nat)),.v (.int .u64 ky)] (.own tk 0)) (by rw[hF];exact⟨f63,f62,f61,f0,f1,f2,f3,f4,f10,f17,f20⟩) f21 rfl GS GU (Pm.bA fP) (To.bA fK) ?_ x1 ?_ ?_ (AS.bn Pn LU 0))
          ·rw[N8,ke,NV,show i=0 by omega];exact gl.new LU (by simp[AS.bA])
          ·intro t h1 h2;simp only[dA,Option.some.injEq] at h2;subst h2;exact fP h1
          ·intro t h1 h2;simp only[dA,Option.some.injEq] at h2;subst h2;exact fK h1
         ·refine jU (Ai @f2 (Ai @f22 (Ai @f19 @f23))) fun K hK=>?_;refine ad (c2 _) ?_;rintro r s8 ⟨rfl,rfl⟩;refine jM ?_;refine ad (c3 _) ?_;rintro r s9 ⟨rfl,rfl⟩;refine jN (Ai @f19 (Ai @f23 (Ai @xx @N9))) ?_;have fP:dA zP≠some tk:=fun q=>x2 _ q rfl;have fK:dA zK≠some tk:=fun q=>x3 _ q rfl;refine⟨by omega,by omega,hK _ _ (hJ7 _ _ zP zK (.sl 2 (i+1+1) (aK bu.cells (cu lf d P i)++[.v (.int .i64 (P.getD i 0:Nat)),.v (.int .u64 ky)]) (.own tk (ek+1))) (by rw[hF];exact⟨f63,f62,f61,f0,f1,f2,f3,f4,f10,f17,f20⟩) f21 rfl GS GU (Pm.bA fP) (To.bA fK) ?_ x1 ?_ ?_ (AS.bn Pn iG (ek+1)))⟩
          ·rw[N8,ke];exact gl.new iG (by simp[AS.bA])
          ·intro t h1 h2;simp only[dA,Option.some.injEq] at h2;subst h2;exact fP h1
          ·intro t h1 h2;simp only[dA,Option.some.injEq] at h2;subst h2;exact fK h1
        have RL:=fF;rw[hF] at RL;obtain⟨f63,f62,f61,f0,f1,f2,f3,f4,f10,f17,f20⟩:=RL;clear hJ7;rcases To with⟨rfl,fD,NV⟩|⟨tk,ek,rfl,N9,iG⟩
        ·refine wE fun K hK=>?_;simp only[↓DN,Qa,Qb,Qc,Qd,Qe,Qf,Qg,Qh,reduceCtorEq,↓reduceIte,Na,Nb,Nc,Nk,Nf,Ng,Nh,Za,Zb,Zc,TT,f21,f24,bU,List.replicate_succ];intro tk eo;have LU:=aZ Pn eo;have fP:=Pm.fresh rfl eo;have fH:=Tp.fresh YS eo;refine hK _ _ (YU _ _ (.sl 1 1 [.v (.int .u64 sk)] (.own tk 0)) (by rw[hF];exact⟨f63,f62,f61,f0,f1,f2,f3,f4,f10,f17,f20⟩) f22 f23 rfl f19 GS GU (Pm.bA fP) ?_ (Tp.bA fH) ?_ x2 ?_ (AS.bn Pn LU 0))
         ·rw[nU,RK,NV,show i=0 by omega];exact gl.new LU (by simp[AS.bA])
         ·intro t h1 h2;simp only[dA,Option.some.injEq] at h2;subst h2;exact fP h1
         ·intro t h1 h2;simp only[dA,Option.some.injEq] at h1;subst h1;exact fH h2
        ·refine wE fun K hK=>?_;simp only[↓DN,Qa,Qb,Qc,Qd,Qe,Qf,Qg,Qh,reduceCtorEq,↓reduceIte,Na,Nb,Nc,Nk,Nf,Ng,Nh,Za,Zb,Zc,TT,f21,f24,N9,List.replicate_succ];have fP:dA zP≠some tk:=fun q=>x1 _ q rfl;have fH:dA zH≠some tk:=x3 _ rfl;refine⟨by omega,by omega,hK _ _ (YU _ _ (.sl 1 (i+1) ((bI d i).map dP++[.v (.int .u64 sk)]) (.own tk (ek+1))) (by rw[hF];exact⟨f63,f62,f61,f0,f1,f2,f3,f4,f10,f17,f20⟩) f22 f23 rfl f19 GS GU (Pm.bA fP) ?_ (Tp.bA fH) ?_ x2 ?_ (AS.bn Pn iG (ek+1)))⟩
         ·rw[nU,RK];exact gl.new iG (by simp[AS.bA])
         ·intro t h1 h2;simp only[dA,Option.some.injEq] at h2;subst h2;exact fP h1
         ·intro t h1 h2;simp only[dA,Option.some.injEq] at h1;subst h1;exact fH h2
       clear hJ7;have YV:s.aw DC=none:=YR;rcases bP with⟨rfl,fD,NV⟩|⟨tk,ek,rfl,N9,iG⟩
       ·refine wE fun K hK=>?_;simp only[↓DN,Qa,Qb,Qc,Qd,Qe,Qf,Qg,Qh,reduceCtorEq,↓reduceIte,Na,Nb,Nc,Nk,Nf,Ng,Nh,Za,Zb,Zc,TT,g17,Pl,bU,xx];intro tk eo;have LU:=aZ hle eo;have fK:=bK.fresh rfl eo;have fH:=bH.fresh YS eo;refine hK _ _ (YT _ _ (.sl 2 1 [.v (.int .u64 sk),.sl 2 sl.length SL .any] (.own tk 0)) (by rw[hF];exact⟨UT,LX,Tn,g0,g1,g2,g3,g4,g10,g17,g20⟩) rfl rfl rfl g21 g19 ?_ (AS.af _ _ _) ?_ (bK.Iq fK) (bH.Iq fH) ?_ ?_ dKH (AS.aF (AS.bn hle LU 0) YV _))
        ·rw[AS.ao _ (Ne.symm cY)];exact RJ
        ·rw[gV,ke,hSc,NV,show i=0 by omega];exact gl.new LU (by simp[AS.bA,AS.set])
        ·intro t h1 h2;simp only[dA,Option.some.injEq] at h1;subst h1;exact fK h2
        ·intro t h1 h2;simp only[dA,Option.some.injEq] at h1;subst h1;exact fH h2
       ·refine jU (Ai @g17 (Ai @Pl (Ai @N9 @xx))) fun K hK=>?_;have fK:dA zK≠some tk:=dPK _ rfl;have fH:dA zH≠some tk:=dPH _ rfl;refine⟨by omega,by omega,hK _ _ (YT _ _ (.sl 2 (i+1) (aK cy.cells (bQ t lf d ctx fresh i)++[.v (.int .u64 sk),.sl 2 sl.length SL .any]) (.own tk (ek+1))) (by rw[hF];exact⟨UT,LX,Tn,g0,g1,g2,g3,g4,g10,g17,g20⟩) rfl rfl rfl g21 g19 ?_ (AS.af _ _ _) ?_ (bK.Iq fK) (bH.Iq fH) ?_ ?_ dKH (AS.aF (AS.bn hle iG (ek+1)) YV _))⟩
        ·rw[AS.ao _ (Ne.symm cY)];exact RJ
        ·rw[gV,ke,hSc];exact gl.new iG (by simp[AS.bA,AS.set])
        ·intro t h1 h2;simp only[dA,Option.some.injEq] at h1;subst h1;exact fK h2
        ·intro t h1 h2;simp only[dA,Option.some.injEq] at h1;subst h1;exact fH h2
     ·have bJ:¬((i:Nat):Int)<((P.length:Nat):Int):=(by omega);obtain rfl:i=P.length:=(by omega);have hG:oM t lf d fresh P.length=true:=by
       unfold oM;rw[List.all_eq_true];intro j hj;exact F4 j (List.mem_range.1 hj)
      rw[if_neg (by rw[hG];decide)] at hR;have uB:(bI d P.length).length=P.length:=(by simp[bI]);have YW:(bQ t lf d ctx fresh P.length).length=P.length:=(by simp[bQ]);have hHl:(cu lf d P P.length).length=P.length+1:=(by simp[cu]);have hwt:=fun s=>aj.gF (.cons (.refl _) (.cons (.refl _) (.cons (.refl _) (.cons (bK.aE AV.aM) (.cons (.refl _) .nil))))) (by
       have:=LW op (bI d P.length) uB s;unfold EP aW aG at this;rw[hXe,uB] at this;exact this)
      have hMU:gY t lf d fresh=eJ t lf op (bI d P.length) fresh:=(by unfold gY;rw[hPe,←ib]);have YX:R1=fk t lf d ctx fresh∧R2=0:=⟨congrArg (·.1) hR,congrArg (·.2) hR⟩;have hMV:fk t lf d ctx fresh=⟨⟨op,(nd (eJ t lf op (bI d P.length) fresh) (2*lf)).parent,bQ t lf d ctx fresh P.length⟩,eJ t lf op (bI d P.length) fresh,cu lf d P P.length,b7 d (P.length+1)⟩:=by
       unfold fk;rw[hMU,hPe,←ib]
      rw[hMV] at YX;have c2:=fun s=>kL P.length (by omega) s;obtain⟨u,hu⟩:∃u,u=eJ t lf op (bI d P.length) fresh:=⟨_,rfl⟩;rw[←hu] at hwt YX;have hul:u.length=t.length:=(by rw[hu];unfold eJ;simp only[List.length_set];exact gJ ..);have hut:2*lf<u.length:=(by omega);have cT:=dh hut;have pb:(0:Int)≤((2*lf:Nat):Int):=(by omega);have ns:((2*lf:Nat):Int)<((u.length:Nat):Int):=(by omega);have gw:=fun s=>fZ (Γ:=Γ) (nd u (2*lf)).parent s (by
       have:=JE t lf op (bI d P.length) fresh (show 2*lf<t.length by omega);rw[←hu] at this;omega)
      generalize hZ:aK ah.cells u=Z at *
      generalize nd u (2*lf)=N at *
      obtain⟨n1,n2,n3,n4,n5⟩:=N;unfold ah.cells at cT;unfold al at gw cT;simp only at gw YX;refine jB (Ai @LX (Ai @UT (decide_eq_false bJ))) ?_;refine wK fun K2 aU=>?_;refine jF ?_;refine aC ?_;simp only[aA,aq,if_true];refine fQ _ _ ?_;clear fQ aU K2 K1;refine eh ?_;intro K hK;refine jP (Ai @g0 (Ai @g1 (Ai @g17 (Ai @Pl (Ai @g21 @g4))))) ?_;refine ad (hwt _) ?_;rintro r s12 ⟨rfl,rfl⟩;refine jR hK ?_;clear hK K;refine eh ?_;intro K hK;refine jP (Ai @g1 (Ai @g17 (Ai @Pl (Ai (bZ lf (by omega)) (Ai @pb (Ai @ns @cT)))))) ?_;refine ad (gw _) ?_;rintro r s13 ⟨rfl,rfl⟩;refine jV (Ai @g17 @Pl) hK ?_;clear hK K;refine qq (eE.lA (d:=17) (o:=DC) (cs:=[.v (.int .u64 op),.sl 1 n4.length (n4.map ae) .any,zP]) g17 (AS.af _ _ _)) (ct.g ?_);have Ib:((s13.set DC [.v (.int .u64 op),.sl 1 n4.length (n4.map ae) .any,zP]).drop DC).aw rf=some [.v (.int .u64 0),.v (.slice none 0 0),.v (.slice none 0 0)]:=by
       rw[←RJ];simp[AS.drop,AS.set,aB,Ne.symm cY]
      have UR:s.le ((s13.set DC [.v (.int .u64 op),.sl 1 n4.length (n4.map ae) .any,zP]).drop DC):=AS.qj (AS.aF hle YR _) YR;generalize (s13.set DC [.v (.int .u64 op),.sl 1 n4.length (n4.map ae) .any,zP]).drop DC=s14 at *
      have wH:=bH.aE (by rw[hH0];exact AV.bN);have wP:=bP.aE AV.aM;have hPn:bU=AV.v (.slice none 0 0):=rfl;have bX:∀(E:Env),E 10=.ptr rf 0→E 11=.sl 5 u.length Z .any→E 12=zH→E 13=.sl 1 (b7 d (P.length+1)).length ((b7 d (P.length+1)).map ae) .any→E 14=.v (.int .i64 0)→
        ck prog (#[ResultVar.cell 10 32,ResultVar.tmp 11,ResultVar.tmp 12,ResultVar.tmp 13,ResultVar.tmp 14]:Array ResultVar).toList (fun r s'=>r=yy R1 R2∧s'=s) .ret E (s14.set rf [.v (.int .u64 op),.sl 1 n4.length (n4.map ae) .any,zP]):=by
       intro E f10 f11 f12 f13 f14;refine oL (o:=rf) (off:=0) f10 (AS.af _ _ _) (by rw[T.c32];decide) (by simp only[↓DN,Qa,Qb,Qc,Qd,Qe,Qf,Qg,Qh,reduceCtorEq,↓reduceIte,Na,Nb,Nc,Nk,Nf,Ng,Nh,Za,Zb,Zc,TT];rfl) ?_;rw[f11,f12,f13,f14,YX.1,YX.2];unfold yy aW eg al dN.cells;simp only;rw[YW,hHl,hZ];exact⟨_,s,AV.Bp (.cons (AV.pE (.cons (AV.aE.refl _) (.cons (AV.aE.refl _) (.cons wP .nil)))) (.cons (AV.aE.refl _) (.cons wH (.cons (AV.aE.refl _) (.cons (AV.aE.refl _) .nil))))),AS.aF UR Pk _,rfl,rfl⟩
      rcases bP with⟨rfl,fD,-⟩|⟨tk,ek,rfl,-,-⟩
      ·rw[fD] at c2 bX;refine pO T.mixed [8] [(1007,.sl 1 (b7 d (0+1)).length ((b7 d (0+1)).map ae) .any)] [0,1,2,3,4,5,6,7,8,9,10,11,12] (by kernel_rfl) ?_;intro K hK;simp only[↓xg,↓tu,↓nX,↓nZ,Nat.reduceAdd,↓nY,qu,nW,rQ,bE,DX,Nat.reduceBEq,List.toList_toArray,List.map_cons,List.map_nil,aN,↓DN,Qa,Qb,Qc,Qd,Qe,Qf,Qg,Qh,reduceCtorEq,↓reduceIte,Na,Nb,Nc,Nk,Nf,Ng,Nh,Za,Zb,Zc,TT,g2,g19,g10,Ib,hPn];refine H9 c2 ?_;refine hK _ _ ?_;clear hK K;refine a7 ?_;try simp only[aA,aq]
       exact bX _ g10 rfl rfl rfl rfl
      ·refine pO T.mixed [8] [(1007,.sl 1 (b7 d (P.length+1)).length ((b7 d (P.length+1)).map ae) .any)] [0,1,2,3,4,5,6,7,8,9,10,11,12] (by kernel_rfl) ?_;intro K hK;simp only[↓xg,↓tu,↓nX,↓nZ,Nat.reduceAdd,↓nY,qu,nW,rQ,bE,DX,Nat.reduceBEq,List.toList_toArray,List.map_cons,List.map_nil,aN,↓DN,Qa,Qb,Qc,Qd,Qe,Qf,Qg,Qh,reduceCtorEq,↓reduceIte,Na,Nb,Nc,Nk,Nf,Ng,Nh,Za,Zb,Zc,TT,g2,g19,g10,Ib];refine H9 c2 ?_;refine hK _ _ ?_;clear hK K;refine a7 ?_;try simp only[aA,aq]
       exact bX _ g10 rfl rfl rfl rfl
  ·have e2:((d.length:Int) != 32)=true:=by
    rw[bne_iff_ne];omega
   rw[if_pos qH] at hR;refine jB @e2 ?_;refine jE ?_;refine jB @RI ?_;refine a7 ?_;try simp only[aA,aq]
   exact fW rf 2 (congrArg (·.1) hR) (congrArg (·.2) hR) _ _ (uZ hle Pk _) (AS.af _ _ _) rfl rfl rfl rfl rfl
 ·have e0:(lj t leaf != 0)=true:=(by simp[he]);rw[if_pos he] at hR;refine jB @e0 ?_;refine jE ?_;refine jB @RI ?_;refine a7 ?_;try simp only[aA,aq]
  exact fW rf _ (congrArg (·.1) hR) (congrArg (·.2) hR) _ _ (uZ hle Pk _) (AS.af _ _ _) rfl rfl rfl rfl rfl
theorem qA{t:List ah}{leaf:Int}{d ctx:List UInt8}{fresh:List Int}(h:(l8 t leaf d ctx fresh).2=0):
    lj t leaf=0∧d.length=32∧iX (jv d)=true∧oM t leaf.toNat d fresh (az leaf.toNat (aI t)).length=true∧(l8 t leaf d ctx fresh).1=fk t leaf.toNat d ctx fresh:=by
  unfold l8 at h⊢;by_cases h1:lj t leaf=0
  · rw[if_neg (fun k=>k h1)] at h⊢;by_cases h2:d.length=32
    · rw[if_neg (fun k=>k h2)] at h⊢;cases h3:iX (jv d) with
      |false=>rw[h3,if_pos rfl] at h;cases h
      |true=>
        rw[h3,if_neg (by decide)] at h;rw[if_neg (by decide)];cases h4:oM t leaf.toNat d fresh (az leaf.toNat (aI t)).length with
        |false=>rw[h4,if_pos rfl] at h;cases h
        |true=>exact⟨h1,h2,rfl,rfl,by rw[if_neg (by decide)]⟩
    · rw[if_pos h2] at h;cases h
  · rw[if_pos h1] at h;exact absurd h h1
theorem yz{t:List ah}{lf:Nat}{d:List UInt8}{fresh:List Int}{m i:Nat}(h:oM t lf d fresh m=true)(hi:i<m):stepG d i (jx t lf fresh i)=true:=by
  unfold oM at h;rw[List.all_eq_true] at h;exact h i (List.mem_range.2 hi)
theorem Bq{d:List UInt8}{i:Nat}{RT:List Int}(h:stepG d i RT=true):iX (lZ (b7 d (i+1)))=true:=by
  unfold stepG at h;rw[Bool.and_eq_true] at h;exact h.1
theorem Br(t:List ah)(d ctx:List UInt8)(i:Nat)(RT:List Int):(gI t d ctx i RT).key=lZ (b7 d (i+1)):=by unfold gI;exact Eq.refl _
theorem u9(t:List ah)(d ctx:List UInt8)(i:Nat)(RT:List Int):(gI t d ctx i RT).dy.length=RT.length:=by unfold gI;exact List.length_map _
theorem tM(t:List ah)(lf:Nat)(d ctx:List UInt8)(fresh:List Int){m i:Nat}(h:i<m):(bQ t lf d ctx fresh m).getD i ⟨0,[]⟩=gI t d ctx i (jx t lf fresh i):=by
  simp[bQ,List.getD,h]
theorem ER(t:List ah)(lf:Nat)(d ctx:List UInt8)(fresh:List Int)(m:Nat):(bQ t lf d ctx fresh m).map (·.key)=bI d m:=by
  unfold bQ bI;rw[List.map_map];refine List.map_congr_left fun i _=>?_;rw[Function.comp_apply,Br]
theorem GW{t:List ah}{lf:Nat}{d ctx:List UInt8}{fresh:List Int}(h:(l8 t lf d ctx fresh).2=0):pV t lf (fk t lf d ctx fresh).p fresh=(gY t lf d fresh,0):=by
  obtain⟨h1,-,h3,h4,-⟩:=qA h;rw[Int.toNat_natCast] at h4;have hl:(bQ t lf d ctx fresh (az lf (aI t)).length).length=(az lf (aI t)).length:=(by simp[bQ]);have hs:va t lf fresh (bQ t lf d ctx fresh (az lf (aI t)).length)=true:=by
    unfold va;rw[List.all_eq_true,hl];intro i hi;have aY:=List.mem_range.1 hi;rw[tM t lf d ctx fresh aY];unfold Bs;rw[Bool.and_eq_true];rw[Br,u9];refine⟨Bq (yz h4 aY),?_⟩;rw[decide_eq_true_iff];unfold jx;exact Eq.refl _
  unfold pV fk;simp only[Int.toNat_natCast];rw[if_neg (fun k=>k h1),if_neg (by rw[hl,h3];simp),if_neg (by rw[hs];simp),ER];have hU:eJ t lf (jv d) (bI d (az lf (aI t)).length) fresh=gY t lf d fresh:=(by unfold gY;rfl);rw[hU,if_pos rfl]
theorem p5(d:List UInt8)(a:Nat):∀i,b7 (b7 d a) i=b7 d (a+i)
  |0=>rfl
  |i+1=>by rw[b7,p5 d a i];rfl
theorem ES{x:Int}:∀{l:List Int},x∈l→∃i,∃hi:i<l.length,l[i]=x∧∀j(hj:j<l.length),j<i→l[j]≠x
  |[],h=>by cases h
  |y::l,h=>by
    by_cases e:y=x
    · exact⟨0,by simp,e,fun j _ h=>absurd h (Nat.not_lt_zero _)⟩
    · obtain⟨i,hi,h1,h2⟩:=ES ((List.mem_cons.1 h).resolve_left (fun k=>e k.symm));refine⟨i+1,by simpa using hi,by simpa using h1,?_⟩;intro j hj FY;cases j with
      |zero=>simpa using e
      |succ j=>simpa using h2 j (by simpa using hj) (by omega)
theorem yA(d:List UInt8)(lf:Nat)(P:List Nat)(a:Nat)(ha:a≤P.length):dT (b7 d (a+1)) (P.drop a)=(cu lf d P P.length).drop (1+a):=by
  apply List.ext_getElem
  · simp[dT,cu];omega
  · intro i h1 h2;rw[lY,List.length_drop] at h1;have e1:(P.drop a).getD i 0=P.getD (a+i) 0:=(by simp[List.getD,List.getElem?_drop]);have e2:a+1+i=a+i+1:=(by omega);have e3:1+a+i=(a+i)+1:=(by omega);simp only[dT,List.getElem_map,List.getElem_range,List.getElem_drop,cu,e3,List.getElem_cons_succ,r3,e1,p5,e2]
theorem ET(d:List UInt8)(a n:Nat)(jc:Nat→Nat)(h:∀i,i<n→jc i=lZ (b7 d (a+i+1))):pW (b7 d (a+1)) n jc=true:=
  vY fun j hj=>by rw[h j hj,p5,show a+1+j=a+j+1 by omega]
theorem rp(dU:Γ 0=eA Sha.H0)(gy:Γ 1=Sha.K.map wV)(hG:Γ 3=fi.map oJ)(t:List ah)(ht:eI t)(LJ:t.length≤2^30)(hw:∀n∈t,lX n)(lf:Nat)
    (d ctx:List UInt8) (CA:ctx.length≤2^30) (fresh:List Int) (hf:fresh.length≤2^40) (Gw:(l8 t lf d ctx fresh).2=0) (ow:Nat) (DA:cB t ow) (cY:ow≠lf) (Th:(ow:Int)∉fresh)
    (a:Nat) (ha:LD lf (aI t) ow=(a:Int)) (lM:a<(az lf (aI t)).length) (x:Nat) (hx:(x:Int)∈jx t lf fresh a) (k:Nat) (hk:(nd t x).key=3^k%PP) (Dy:1≤k∧k≤2305843009213693949) (s:AS):
    aj prog Γ 27 [aW t,.v (.int .i64 lf),.agg (fk t lf d ctx fresh).p.cells,.v (.int .i64 ow),eg [⟨(x:Nat),k⟩],al ctx .any,aG fresh .any] s
      (fun r s'=>r=.eu [eg (⟨(x:Nat),k⟩::(cu lf d (az lf (aI t)) (az lf (aI t)).length).drop (1+a)),al (b7 d ((az lf (aI t)).length+1)) .any,.v (.int .i64 0)]∧s'=s):=by
  obtain⟨h1,h2,h3,h4,-⟩:=qA Gw
  rw[Int.toNat_natCast] at h4
  obtain⟨hr,hm⟩:=fX.1 h1
  obtain⟨bT,kq⟩:Fit (aI t)∧t.length=2*aI t-1:=by
    rcases bG (t:=t) with h|h
    · exact absurd h hr.1
    · exact h
  have oZ:=bT.le
  have ev:lf<aI t:=by
    have:=hm.2.1
    omega
  have I9:=CN bT ev kq lM
  obtain⟨m,hxm,hmt,xic,p6⟩:=CK hr fresh I9 hx
  obtain rfl:x=m:=by omega
  obtain⟨i0,fD,hie,DD⟩:=ES hx
  have hl:(fk t lf d ctx fresh).p.steps.length=(az lf (aI t)).length:=by simp[fk,bQ]
  have qF:a<(fk t lf d ctx fresh).p.steps.length:=by omega
  have dK:(fk t lf d ctx fresh).p.steps[a]=gI t d ctx a (jx t lf fresh a):=by simp[fk,bQ]
  have tG:(fk t lf d ctx fresh).p.steps[a].dy.length=(jx t lf fresh a).length:=by rw[dK];exact u9 ..
  have Bo:((fk t lf d ctx fresh).p.steps[a].dy[i0]'(by omega))=tI t d ctx a x:=by
    have :((gI t d ctx a (jx t lf fresh a)).dy[i0]'(by simpa[gI] using fD))=tI t d ctx a x:=by
      simp only[gI,List.getElem_map,hie,Int.toNat_natCast]
    simpa only[dK] using this
  have LQ:vV d a (x:Int)=true:=by
    have:=yz h4 lM
    unfold stepG at this
    rw[Bool.and_eq_true,List.all_eq_true] at this
    exact this.2 _ hx
  have Js:vW (iN (iO d a x)):=by
    unfold vV at LQ
    rw[Int.toNat_natCast] at LQ
    exact pT.1 LQ
  have Pb:(jx t lf fresh a).length≤2^40:=by
    unfold jx bC
    split
    · have h1:=iM hr fresh (lv (bY (nodeAt lf (aI t) a):Int).toNat) (bY (nodeAt lf (aI t) a):Int).toNat
      have h2:=nn (bY (nodeAt lf (aI t) a):Int).toNat
      have h3:=Nat.pow_le_pow_right (show 0<2 by decide) h2
      omega
    · exact Nat.zero_le _
  have gw:=CH (Γ:=Γ) dU gy hG t ht LJ hw hr lf hm (fk t lf d ctx fresh).p hl ow DA cY ⟨(x:Nat),k⟩ ctx CA fresh hf Th (by rw[GW Gw]) a ha qF i0 fD hie DD (by omega) (by omega)
    (by rw[Bo];exact⟨Js,Dy.1,Dy.2⟩) (by rw[Bo];unfold tI iP;rw[oi,lB];decide)
    (by
      intro h
      obtain⟨u,hu,he⟩:=List.mem_map.1 h
      have he:(u:Int)=(x:Int):=he
      obtain rfl:u=x:=by omega
      exact LY bT ev lM (by omega) p6 hu)
    (b7 d (a+1)) (by rw[Bo];unfold tI;simp only;rw[hk];exact Tq ..) (by rw[Bo];unfold tI;simp only;rw[hk];exact Tr ..) (lB d a)
    (ET d a _ _ fun i hi=>by
      rw[List.length_drop] at hi
      have:=tM t lf d ctx fresh (m:=(az lf (aI t)).length) (i:=a+i) (by omega)
      unfold fk
      simp only
      rw[this]
      rfl) s
  rw[yA d lf _ a (by omega),p5,show a+1+((az lf (aI t)).length-a)=(az lf (aI t)).length+1 by omega] at gw
  exact gw
end Go.Proofs.YtbiefppedlodiaaGreatDoor
namespace Go.AM
open Go Go.RowKit
variable{P:Program}{Γ:Nat→List AV}
theorem aj.settled{f:FuncId}{a b:AV}{post:List AV}{x x':AV}{s s':AS}{Q:AV→AS→Prop}(h:b8 Γ s x s' x')(k:aj P Γ f (a::b::x'::post) s' Q):aj P Γ f (a::b::x::post) s Q:=by
  intro G w vs hs hv;have hv:=hv;simp only[ar] at hv;obtain⟨u1,us1,rfl,h1,u2,us2,rfl,h2,u,us,rfl,h3,h4⟩:=hv;obtain⟨G',g1,g2,g3⟩:=h G w u hs h3;refine(k G' w _ g2 (by simp only[ar];exact⟨u1,_,rfl,av.mono g1 _ _ h1,u2,_,rfl,av.mono g1 _ _ h2,u,_,rfl,g3,ar.mono g1 _ _ h4⟩)).mono ?_;rintro e w' ⟨vF,r,v,ic,rfl,q1,q2,q3,q4⟩;exact⟨vF,r,v,ic,rfl,g1.trans q1,q2,q3,q4⟩
end Go.AM
