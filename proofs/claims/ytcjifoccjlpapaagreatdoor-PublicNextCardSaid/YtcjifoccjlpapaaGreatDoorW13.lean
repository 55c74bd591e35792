/- Contracts of functions, each walked once; each theorem states its conditions. -/
import Derived.Test.YtcjifoccjlpapaaGreatDoorAMp6
import Derived.Test.YtcjifoccjlpapaaGreatDoorW1
import Derived.Test.YtcjifoccjlpapaaGreatDoorW12
import Derived.Test.YtcjifoccjlpapaaGreatDoorW8
import Derived.Test.YtcjifoccjlpapaaGreatDoorRows
import Derived.Test.YtcjifoccjlpapaaGreatDoorW4
import Derived.ProofKit
import Derived.LaidMore
import Derived.MakeChecks
import Derived.OpenShut
set_option linter.unusedSimpArgs false
set_option linter.unusedVariables false
open Char renaming ofNat → Cn
open Nat renaming reduceLT → Na, reduceLeDiff → Nb, reduceEqDiff → Nc, reduceAdd → Nk, reduceMul → Nf, reducePow → Ng, reduceSub → Nh, reduceBEq → Nz
open Int renaming reduceLT → Za, reduceLE → Zb, reduceToNat → Zc
open And renaming intro → Ai
open Go.AM renaming ashift → Qa, aconv → Qb, aindexAddr → Qc, aindex → Qd, aslice → Qe, abuiltin → Qf, awp_reg_seq → wS, awp_reg_end → wE, awp_seq_k → wK, awp_cond_k → wC
open Go.AM.AV renaming cells → Qg, one → Qh
set_option maxRecDepth 100000
set_option maxHeartbeats 8000000
namespace Go.Proofs.YtcjifoccjlpapaaGreatDoor
open Go Go.AM Go.Proofs Tryz
variable {Γ : Nat→List AV}
theorem H3 {S : gy} {C : aI} {F : List aa × List Int × Bool} (h : (bl S C F).2.2 = 0) : S.b8≠1048576:=by
 unfold bl at h;by_cases h1 : S.right∧C.right
 ·rw [if_neg (fun k=>k h1)] at h;by_cases h2 : C.group≠S.group
  ·rw [if_pos h2] at h; cases h
  ·rw [if_neg h2] at h;by_cases h3 : C.b8≠S.b8
   ·rw [if_pos h3] at h; cases h
   ·rw [if_neg h3] at h;intro h4;rw [if_pos h4] at h; cases h
 ·rw [if_pos h1] at h; cases h
theorem u7 {S : gy} {C : aI} {Tr : List aa} (hS : S.right) (he : S.b8≠1048576) (ht : aA Tr) : (kc S C Tr).right:=by
 obtain ⟨h1,h2,h3,_,h5,h6⟩:=hS;exact ⟨h1,by simp only [kc]; omega,by simp only [kc]; omega,ht,Sha.dq _,Sha.dq _⟩
theorem FR (S : gy) (C : aI) : ((mH S C).1 = gy.bp∧(mH S C).2.1 = []∧(mH S C).2.2≠0)∨((mH S C).1.right∧(mH S C).2.1.length≤16∧(mH S C).2.2 = 0):=by
 have sM:=jd S C (cS S.tree C.br C.props);have Le:=fun (h1 : S.right) (h3 : (cS S.tree C.br C.props).2.2 = true)=>kH h1.2.2.2.1 h3;have yf:=rJ (S:=S) (C:=C);have hep:=H3 (S:=S) (C:=C) (F:=cS S.tree C.br C.props);unfold mH FP;rw [← qT];generalize cS S.tree C.br C.props = FF at *
 rcases sM with ⟨er,GQ,e⟩ | ⟨hS,hC,kS,e⟩
 ·rw [e];rw [if_pos (show (([],[],er) : List aa × List Int × Int).2.2≠0 from GQ)];exact .inl ⟨rfl,rfl,GQ⟩
 ·have MF:=Le hS kS;have qH:=yf hS hC kS;rw [e] at hep ⊢;have he:=hep rfl;rw [if_neg (show ¬ ((0 : Int)≠0) from by decide)];by_cases hn : wj C = true∧C.gZ = false
  ·rw [if_pos hn];exact .inl ⟨rfl,rfl,by simp⟩
  ·rw [if_neg hn];by_cases hp : C.gZ = true
   ·rw [if_pos hp];simp only;have har:=FO (t:=FF.1) (leaf:=C.br) (p:=C.path) (fresh:=FF.2.1);by_cases ha : (kb FF.1 C.br C.path FF.2.1).2≠0
    ·rw [if_pos ha];exact .inl ⟨rfl,rfl,ha⟩
    ·rw [if_neg ha];exact .inr ⟨u7 hS he (har (Classical.not_not.1 ha)),qH,rfl⟩
   ·rw [if_neg hp];exact .inr ⟨u7 hS he MF,qH,rfl⟩
theorem vV (n9 : Γ 0 = gR Sha.H0) (kV : Γ 1 = Sha.K.map wV) (hG : Γ 3 = eW.map nj) (S : gy) (hkS : ∀ n ∈ S.tree,n.key < 2 ^ 64) (C : aI) (hw : C.wf) (s : AS) :
  ah prog Γ 3 [.agg S.cells,.agg C.cells] s (fun r s'=>r = .v (.bool true)):=by
 refine ab func3 rfl ntmps3 results3 (by simp) ?_;have YL:=fun s=>BB (Γ:=Γ) n9 kV hG s;have YM:=fun s=>BC (Γ:=Γ) S s;have LM:=fun s=>Fw (Γ:=Γ) C hw s;by_cases hS : wB S
 ·rw [decide_eq_true hS] at YM;have hW:=MH hS hkS;have h1:=fun s=>qI (Γ:=Γ) hG S hW C (tA hw) s;have h2:=fun s=>oJ (Γ:=Γ) S hW C hw s;have h3:=fun s=>Bz (Γ:=Γ) n9 kV hG S hW C hw s;have h4:=fun s=>wA (Γ:=Γ) n9 kV S hW C hw s;rw [qT] at h1;rw [PA] at h3;have sM:=jd S C (cS S.tree C.br C.props);have Le:=fun (h1 : S.right) (h3 : (cS S.tree C.br C.props).2.2 = true)=>kH h1.2.2.2.1 h3;have yf:=rJ (S:=S) (C:=C);rw [qT] at sM;have hFW : cV (bl S C (iP S.tree C.br C.props)).1∧(bl S C (iP S.tree C.br C.props)).2.1.length≤2 ^ 61:=by
   rcases sM with ⟨er,_,e⟩ | ⟨a,b,c,e⟩
   ·rw [e]; exact ⟨Cz,by simp⟩
   ·rw [e]; exact ⟨tr (Le a c),by have:=yf a b c; simp only; omega⟩
  have hn:=FR S C;generalize bl S C (iP S.tree C.br C.props) = FF at *
  generalize mH S C = NN at *
  have hNW : NN.1.wf∧NN.2.1.length≤2 ^ 61:=by
   rcases hn with ⟨a,b,_⟩ | ⟨a,b,_⟩
   ·rw [a,b]; exact ⟨MI,by simp⟩
   ·exact ⟨tr a.2.2.2.1,by omega⟩
  have h5:=fun s=>FU (Γ:=Γ) FF.1 FF.1 hFW.1 s;have h6:=fun s=>oe (Γ:=Γ) FF.2.1 FF.2.1 hFW.2 s;have h7:=fun s=>oe (Γ:=Γ) NN.2.1 NN.2.1 hNW.2 s;have h8:=fun s=>wD (Γ:=Γ) NN.1 NN.1 hNW.1 s;have h9:=fun s=>qV (Γ:=Γ) hG NN.1 hNW.1 s;rw [decide_eq_true rfl] at h5 h6 h7 h8;have YN : NN.2.2≠0∨(NN.2.2 = 0∧decide NN.1.right = true):=by
   rcases hn with ⟨_,_,a⟩ | ⟨a,_,b⟩
   ·exact .inl a
   ·exact .inr ⟨b,decide_eq_true a⟩
  clear sM Le yf hFW hn hNW hS hW hw hG n9 kV hkS;obtain ⟨NS,NL,NE⟩:=NN;obtain ⟨FT,FL,FE⟩:=FF;simp only at *
  generalize decide NS.right = RB at *
  have hNc : NS.cells.length = 5:=rfl;obtain ⟨sg,se,st,sc,si⟩:=S;obtain ⟨cg,ce,cs,cp,ch,qd,cc,cm⟩:=C;obtain ⟨ng,ne,nt,nc,ni⟩:=NS;unfold gy.cells aI.cells at *
  simp only at *
  generalize fm FT = TF at *
  unfold ax ak aC at *
  generalize au aa.cells st = X at *
  generalize au aa.cells nt = XN at *
  generalize au aF.cells cp = CP at *
  generalize au bk.cells qd.steps = CS at *
  refine bY 2 3 (by decide) (by decide) (by decide) ?_;intro K hK;refine jM ?_;intro o1 q1 o2 q3;refine hK _ _ o1 o2 _ _ rfl rfl q1 (by rw [AS.cQ]; exact q3) ?_;clear hK K q1 q3;refine wK fun K hK=>?_;refine jQ fun K hK=>?_;refine ae (YL _) ?_;rintro r s1 ⟨rfl,rfl⟩;refine jM ?_;refine ae (YM _) ?_;rintro r s2 ⟨rfl,rfl⟩;refine jM ?_;refine ae (LM _) ?_;rintro r s3 ⟨⟨n,rfl⟩,rfl⟩;by_cases hn : 6000 < n
  ·refine jV (decide_eq_true hn) hK ?_;clear hK K;refine jE ?_;refine jK (YL _) ?_;rintro s4 rfl;refine jI ?_;exact ⟨_,_,AV.aL.refl _,AS.le.refl _,rfl⟩
  ·refine jV (decide_eq_false hn) hK ?_;clear hK K;refine jF ?_;refine ad ?_;refine hK _ _ ?_;clear hK K;clear YL YM LM;refine jK (h1 _) ?_;rintro s4 rfl;refine jK (h2 _) ?_;rintro s5 rfl;refine jQ fun K hK=>?_;refine ae (h3 _) ?_;rintro r s6 ⟨rfl,rfl⟩;refine jM ?_;intro FI S0;refine hK _ _ ?_;clear hK K;refine jQ fun K hK=>?_;refine ae (h4 _) ?_;rintro r s7 ⟨rfl,rfl⟩;refine jM ?_;intro HV Up;refine hK _ _ ?_;clear hK K;obtain ⟨Ms,Up⟩:=uV Up;have m14:=AS.aj (s6.set FI [.sl 1 ng.length (ng.map aw) .any,.v (.int .i64 ne),.sl 5 nt.length XN .any,.sl 1 nc.length (nc.map aw) .any,.sl 1 ni.length (ni.map aw) .any]) HV [.sl 1 ng.length (ng.map aw) .any,.v (.int .i64 ne),.sl 5 nt.length XN .any,.sl 1 nc.length (nc.map aw) .any,.sl 1 ni.length (ni.map aw) .any];have Ym:=(AS.aR (s6.set FI [.sl 1 ng.length (ng.map aw) .any,.v (.int .i64 ne),.sl 5 nt.length XN .any,.sl 1 nc.length (nc.map aw) .any,.sl 1 ni.length (ni.map aw) .any]) (Ne.symm Ms) [.sl 1 ng.length (ng.map aw) .any,.v (.int .i64 ne),.sl 5 nt.length XN .any,.sl 1 nc.length (nc.map aw) .any,.sl 1 ni.length (ni.map aw) .any]).trans (AS.aj s6 FI [.sl 1 ng.length (ng.map aw) .any,.v (.int .i64 ne),.sl 5 nt.length XN .any,.sl 1 nc.length (nc.map aw) .any,.sl 1 ni.length (ni.map aw) .any]);generalize (s6.set FI [.sl 1 ng.length (ng.map aw) .any,.v (.int .i64 ne),.sl 5 nt.length XN .any,.sl 1 nc.length (nc.map aw) .any,.sl 1 ni.length (ni.map aw) .any]).set HV [.sl 1 ng.length (ng.map aw) .any,.v (.int .i64 ne),.sl 5 nt.length XN .any,.sl 1 nc.length (nc.map aw) .any,.sl 1 ni.length (ni.map aw) .any] = s8 at m14 Ym ⊢;have e1 : (FE != FE) = false:=(by simp);have e2 : (NE != NE) = false:=(by simp);refine wK fun K hK=>?_;refine jS @e1 fun K hK=>?_;refine ae (h5 _) ?_;rintro r s9 ⟨rfl,rfl⟩;refine jM ?_;refine ae (h6 _) ?_;rintro r Cs ⟨rfl,rfl⟩;refine jN (Ai @e2 (Ai @Ym @m14)) ?_;refine ae (h8 _) ?_;rintro r Oc ⟨rfl,rfl⟩;refine jM ?_;refine ae (h7 _) ?_;rintro r s12 ⟨rfl,rfl⟩;refine jR hK ?_;clear hK K;refine jF ?_;refine ad ?_;refine hK _ _ ?_;clear hK K;rcases YN with h | ⟨rfl,hR⟩
   ·refine jB (bF h) ?_;refine jI ?_;exact ⟨_,_,AV.aL.refl _,AS.le.refl _,rfl⟩
   ·refine jS (Ai (show ((0 : Int) != 0) = false from rfl) @Ym) fun K hK=>?_;refine ae (h9 _) ?_;rintro r s13 ⟨rfl,rfl⟩;refine jR hK ?_;clear hK K;subst hR;refine jI ?_;exact ⟨_,_,AV.aL.refl _,AS.le.refl _,rfl⟩
 ·rw [decide_eq_false hS] at YM;clear hG n9 kV hkS hS;unfold gy.cells aI.cells at *
  unfold ax ak at *
  generalize au aa.cells S.tree = X at *
  generalize au aF.cells C.props = CP at *
  generalize au bk.cells C.path.steps = CS at *
  refine bY 2 3 (by decide) (by decide) (by decide) ?_;intro K hK;refine jM ?_;intro o1 q1 o2 q3;refine hK _ _ o1 o2 _ _ rfl rfl q1 (by rw [AS.cQ]; exact q3) ?_;clear hK K q1 q3;refine wK fun K hK=>?_;refine jQ fun K hK=>?_;refine ae (YL _) ?_;rintro r s1 ⟨rfl,rfl⟩;refine jM ?_;refine ae (YM _) ?_;rintro r s2 ⟨rfl,rfl⟩;refine jR hK ?_;clear hK K;refine jE ?_;refine jK (YL _) ?_;rintro s3 rfl;refine jI ?_;exact ⟨_,_,AV.aL.refl _,AS.le.refl _,rfl⟩
def YO : List Nat:=[0,1,28,2,29,14,24,3,30,22,20,15,25,17,4,8,31,27,13,23,21,19,16,7,26,12,18,6,11,5,10,9]
def Γd (g : Nat) : List AV:=if g = 0 then [wV Sha.H0.a,wV Sha.H0.b,wV Sha.H0.c,wV Sha.H0.d,wV Sha.H0.e,wV Sha.H0.f,wV Sha.H0.g,wV Sha.H0.h] else if g = 1 then Sha.K.map wV else if g = 2 then YO.map nj else if g = 3 then eW.map nj else []
abbrev Fp : List (String × DataW Unit):=[("math/bits.deBruijn32tab", Rows.laid_math_bits_deBruijn32tab),("math/bits.deBruijn64tab", Rows.laid_math_bits_deBruijn64tab),("engrosser/sha.rounds", Rows.laid_engrosser_sha_rounds),("engrosser/sha.start", Rows.laid_engrosser_sha_start)]
theorem lM {H : Type} {enc : TypeId × Value→H} {P : Program} {W : World} {base : Nat} {sp : Nat→Bool} {held : Bool} {fuel : Nat} {t e : TypeId} {n : Nat} {cs : List Value} {p : List MemPlace} {l : List Nat} {kd : IntKind}
    (hT : P.underlying t = some (.array n e)) (he : P.underlying e = some (.int kd)) (hc : P.cellsOf e = 1)
    (h : DataW.trod enc P W base sp held fuel t cs = some (.agg (l.map fun (x : Nat)=>.lit (.int kd (x : Int))),p)) : ∀ (i x : Nat),l[i]? = some x→cs[i]? = some (.int kd (x : Int)):=by
  obtain ⟨xs,m,rfl,hx,hlen,hn,xh⟩:=DataW.trod_array hT h;simp only [Prod.mk.injEq,DataW.agg.injEq] at hx;intro i x hi;have h1 : (l.map fun (x : Nat)=>DataW.lit (H:=H) (.int kd (x : Int)))[i]? = some (.lit (.int kd (x : Int))):=(by rw [List.getElem?_map,hi]; rfl);rw [hx.1,List.getElem?_map] at h1;cases hy : xs[i]? with
  | none=>rw [hy] at h1; cases h1
  | some y =>
    rw [hy] at h1;simp only [Option.map_some,Option.some.injEq] at h1;have cN:=(List.getElem?_eq_some_iff.1 hy).1;have h2:=xh i (by omega);rw [hy,hc,Nat.mul_one] at h2;obtain ⟨k,e1,e2,_⟩:=DataW.trod_int he h2;rw [e2] at h1;simp only [DataW.lit.injEq,Lit.int.injEq,true_and] at h1;have h3 : (List.take 1 (List.drop i cs))[0]? = some (.int kd k):=(by rw [e1]; rfl);rw [List.getElem?_take,if_pos (by decide),List.getElem?_drop,Nat.add_zero,h1] at h3;exact h3
theorem PB : prog.globalNamed "engrosser/sha.rounds" = some 1:=by kernel_rfl
theorem Tj : prog.globalNamed "engrosser/sha.start" = some 0:=by kernel_rfl
theorem xb2 : prog.globalNamed "math/bits.deBruijn32tab" = some 2:=by kernel_rfl
theorem xb3 : prog.globalNamed "math/bits.deBruijn64tab" = some 3:=by kernel_rfl
theorem PC : (prog.globals[1]?).map (·.type) = some 220:=by kernel_rfl
theorem Tk : (prog.globals[0]?).map (·.type) = some 154:=by kernel_rfl
theorem xb4 : (prog.globals[2]?).map (·.type) = some 277:=by kernel_rfl
theorem xb5 : (prog.globals[3]?).map (·.type) = some 278:=by kernel_rfl
theorem u9 {kd : IntKind} {W : World} {g : Nat} {cs : Array Value} {l : List Nat} (hc : ∀ i,W.cell? ⟨g,i,none⟩ = cs[i]?) (h : ∀ (i x : Nat),l[i]? = some x→cs.toList[i]? = some (.int kd (x : Int))) :
    ∃ vs,al (G0 W) (l.map fun (x : Nat)=>.v (.int kd (x : Int))) vs∧gg (G0 W) g 0 vs:=by
  refine ⟨l.map fun (x : Nat)=>.int kd (x : Int),?_,?_⟩
  · have:=al.GU (G:=G0 W) (l.map fun (x : Nat)=>Value.int kd (x : Int));rwa [List.map_map] at this
  · intro j u hu;rw [List.getElem?_map] at hu;cases hj : l[j]? with
    | none=>rw [hj] at hu; cases hu
    | some x =>
      rw [hj] at hu;simp only [Option.map_some,Option.some.injEq] at hu;have:=h j x hj;show W.cell? ⟨g,0 + j,none⟩ = some u;rw [Nat.zero_add,hc j,← hu];simpa using this
theorem OT {W : World} (h : laidMetH prog Fp W) : ∀ g,∃ vs,al (G0 W) (Γd g) vs∧gg (G0 W) g 0 vs:=by
  rw [MakeChecks.laidMetH_plain _ _ _ (by kernel_rfl)] at h;obtain ⟨ps,⟨g0,t0,cs0,f0,p0,q0,hg0,iO,C6,hd0,⟨g1,t1,GL,f1,p1,q1,IB,ht1,hv1,Fb,⟨g2,t2,GF,f2,p2,q2,Uw,YP,Ru,GJ,⟨g3,t3,cs3,f3,p3,q3,hg3,ht3,hv3,hd3,_,_⟩,_⟩,_⟩,_⟩,_,_⟩:=h;obtain rfl:=Option.some.inj (xb2.symm.trans hg0);obtain rfl:=Option.some.inj (xb3.symm.trans IB);obtain rfl:=Option.some.inj (PB.symm.trans Uw);obtain rfl:=Option.some.inj (Tj.symm.trans hg3);obtain rfl:=Option.some.inj (xb4.symm.trans iO);obtain rfl:=Option.some.inj (xb5.symm.trans ht1);obtain rfl:=Option.some.inj (PC.symm.trans YP);obtain rfl:=Option.some.inj (Tk.symm.trans ht3);have h2:=u9 (World.var?_cell hg0 C6) (lM (l:=YO) underlying277 underlying5 T.c5 hd0);have h3:=u9 (World.var?_cell IB hv1) (lM (l:=eW) underlying278 underlying5 T.c5 Fb);have h1:=u9 (World.var?_cell Uw Ru) (lM (l:=Sha.K) underlying220 underlying153 T.Dn GJ);have h0:=u9 (World.var?_cell hg3 hv3) (lM (l:=Sha.H0.list) underlying154 underlying153 T.Dn hd3);intro g;by_cases e0 : g = 0
  · subst e0; exact h0
  · by_cases e1 : g = 1
    · subst e1; exact h1
    · by_cases e2 : g = 2
      · subst e2; exact h2
      · by_cases e3 : g = 3
        · subst e3; exact h3
        · refine ⟨[],?_,fun j u h=>by simp at h⟩;simp [Γd,e0,e1,e2,e3,al]
theorem L0 (os : Os) (args : Array Value) : laidMetH prog Fp ((World.doorLaid prog 400 os).forCall (fun _ _=>0) ⟨#[],args,[]⟩).memory:=by
  rw [MakeChecks.laidMetH_plain _ _ _ (by kernel_rfl)];exact laidMet_of_run' 8 (by kernel_rfl) (by kernel_rfl)
set_option maxRecDepth 100000
def YQ : List Char:=[Cn 104,Cn 97,Cn 114,Cn 110,Cn 101,Cn 115,Cn 115,Cn 32,Cn 52,Cn 48,Cn 52,Cn 99,Cn 102,Cn 100,Cn 102,Cn 48,Cn 102,Cn 101,Cn 57,Cn 56,Cn 49,Cn 54,Cn 57,Cn 101,Cn 50,Cn 53,Cn 101,Cn 55,Cn 55,Cn 48,Cn 57,Cn 53,Cn 50,Cn 101,Cn 102,Cn 53,Cn 99,Cn 101,Cn 101,Cn 98,Cn 56,Cn 97,Cn 52,Cn 51,Cn 56,Cn 97,Cn 49,Cn 52,Cn 52,Cn 55,Cn 50,Cn 100,Cn 49,Cn 55,Cn 51,Cn 54,Cn 49,Cn 51,Cn 99,Cn 50,Cn 99,Cn 55,Cn 48,Cn 55,Cn 99,Cn 100,Cn 48,Cn 97,Cn 52,Cn 55,Cn 97,Cn 100,Cn 32,Cn 99,Cn 117,Cn 116,Cn 32,Cn 97,Cn 116,Cn 32,Cn 101,Cn 110,Cn 103,Cn 114,Cn 111,Cn 115,Cn 115,Cn 101,Cn 114,Cn 47,Cn 101,Cn 110,Cn 103,Cn 114,Cn 111,Cn 115,Cn 115,Cn 101,Cn 114,Cn 108,Cn 97,Cn 119,Cn 50,Cn 52,Cn 46,Cn 80,Cn 117,Cn 98,Cn 108,Cn 105,Cn 99,Cn 78,Cn 101,Cn 120,Cn 116,Cn 32,Cn 101,Cn 110,Cn 103,Cn 114,Cn 111,Cn 115,Cn 115,Cn 101,Cn 114,Cn 47,Cn 101,Cn 110,Cn 103,Cn 114,Cn 111,Cn 115,Cn 115,Cn 101,Cn 114,Cn 108,Cn 97,Cn 119,Cn 51,Cn 48,Cn 46,Cn 65,Cn 117,Cn 100,Cn 105,Cn 116,Cn 82,Cn 101,Cn 112,Cn 108,Cn 97,Cn 121,Cn 115]
def wF : List (List Char):=[[Cn 104,Cn 97,Cn 114,Cn 110,Cn 101,Cn 115,Cn 115],
  [Cn 52,Cn 48,Cn 52,Cn 99,Cn 102,Cn 100,Cn 102,Cn 48,Cn 102,Cn 101,Cn 57,Cn 56,Cn 49,Cn 54,Cn 57,Cn 101,Cn 50,Cn 53,Cn 101,Cn 55,Cn 55,Cn 48,Cn 57,Cn 53,Cn 50,Cn 101,Cn 102,Cn 53,Cn 99,Cn 101,Cn 101,Cn 98,Cn 56,Cn 97,Cn 52,Cn 51,Cn 56,Cn 97,Cn 49,Cn 52,Cn 52,Cn 55,Cn 50,Cn 100,Cn 49,Cn 55,Cn 51,Cn 54,Cn 49,Cn 51,Cn 99,Cn 50,Cn 99,Cn 55,Cn 48,Cn 55,Cn 99,Cn 100,Cn 48,Cn 97,Cn 52,Cn 55,Cn 97,Cn 100],
  [Cn 99,Cn 117,Cn 116],
  [Cn 97,Cn 116],
  [Cn 101,Cn 110,Cn 103,Cn 114,Cn 111,Cn 115,Cn 115,Cn 101,Cn 114,Cn 47,Cn 101,Cn 110,Cn 103,Cn 114,Cn 111,Cn 115,Cn 115,Cn 101,Cn 114,Cn 108,Cn 97,Cn 119,Cn 50,Cn 52,Cn 46,Cn 80,Cn 117,Cn 98,Cn 108,Cn 105,Cn 99,Cn 78,Cn 101,Cn 120,Cn 116],
  [Cn 101,Cn 110,Cn 103,Cn 114,Cn 111,Cn 115,Cn 115,Cn 101,Cn 114,Cn 47,Cn 101,Cn 110,Cn 103,Cn 114,Cn 111,Cn 115,Cn 115,Cn 101,Cn 114,Cn 108,Cn 97,Cn 119,Cn 51,Cn 48,Cn 46,Cn 65,Cn 117,Cn 100,Cn 105,Cn 116,Cn 82,Cn 101,Cn 112,Cn 108,Cn 97,Cn 121,Cn 115]]
theorem YR : prog.initOrder = String.ofList YQ:=by kernel_rfl
theorem words : wordsSigns prog.initOrder.toList = wF:=by
  rw [YR,String.toList_ofList];kernel_rfl
theorem both {a b : Bool} (h : a = true) (k : b = true) : (a && b) = true:=by rw [h,k]; rfl
theorem OV {a b : Bool} (h : b = a) : (a == b) = true:=by rw [h]; cases a <;> rfl
theorem OX {a b : Option Make} (h : a = b) : (a == b) = true:=by rw [h]; exact beq_self_eq_true _
theorem CA (r : List (List Char)) : stripLifts liftWords ("cut".toList :: r) = ([], "cut".toList :: r):=by kernel_rfl
theorem CB {P : Program} {r} (h : behindMainWord (wordsSigns P.initOrder.toList) = "cut".toList :: r) : P.headLifts = []:=by
  unfold Program.headLifts;rw [h,CA];kernel_rfl
theorem MJ {P : Program} {r} (h : behindMainWord (wordsSigns P.initOrder.toList) = "cut".toList :: r) : P.make = some .cut:=by
  unfold Program.make;rw [h,CB h];kernel_rfl
theorem Kl {P : Program} {r} (h : behindMainWord (wordsSigns P.initOrder.toList) = "cut".toList :: r) : P.liftsFinal = false:=by
  unfold Program.liftsFinal;rw [h,CB h];kernel_rfl
theorem MK {P : Program} {s r} (h : wordsSigns P.initOrder.toList = "harness".toList :: s :: r) (hs : isSumSigns s = true) : P.mainIs = some (true,s):=by
  unfold Program.mainIs;rw [h];dsimp only;rw [hs];kernel_rfl
theorem PE {P : Program} {r} (h : behindMainWord (wordsSigns P.initOrder.toList) = "cut".toList :: r) (hl : P.laysLater = false) (hr : P.bearsReflect = false) (hd : P.doorFits [] = true) : P.mayEnter = true:=by
  unfold Program.mayEnter;rw [h,hl,hr];dsimp only;rw [CA];dsimp only;rw [hd];kernel_rfl
theorem behind : behindMainWord (wordsSigns prog.initOrder.toList) = "cut".toList :: wF.drop 3:=(congrArg behindMainWord words).trans (by kernel_rfl)
theorem L5 : prog.make = some .cut:=MJ behind
theorem L6 : prog.mainIs = some (true, "404cfdf0fe98169e25e770952ef5ceeb8a438a14472d173613c2c707cd0a47ad".toList):=MK (r:=wF.drop 2) (words.trans (by kernel_rfl)) (by kernel_rfl)
theorem OU : prog.mayEnter = true:=PE behind (by kernel_rfl) (by kernel_rfl) (by kernel_rfl)
theorem OW : prog.liftsFinal = false:=Kl behind
end Go.Proofs.YtcjifoccjlpapaaGreatDoor
