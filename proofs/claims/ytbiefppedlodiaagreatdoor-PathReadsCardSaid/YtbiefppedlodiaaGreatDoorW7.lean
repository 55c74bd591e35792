/- Contracts of functions, each walked once; each theorem states its conditions. -/
import Derived.Test.YtbiefppedlodiaaGreatDoorAMp6
import Derived.Test.YtbiefppedlodiaaGreatDoorW1
import Derived.Test.YtbiefppedlodiaaGreatDoorW6
import Derived.Test.YtbiefppedlodiaaGreatDoorW5
import Derived.Test.YtbiefppedlodiaaGreatDoorW3
import Derived.Test.YtbiefppedlodiaaGreatDoorW2
set_option linter.unusedSimpArgs false
set_option linter.unusedVariables false
open Nat renaming reduceLT → Na, reduceLeDiff → Nb, reduceEqDiff → Nc, reduceAdd → Nk, reduceMul → Nf, reducePow → Ng, reduceSub → Nh, reduceBEq → Nz
open Int renaming reduceLT → Za, reduceLE → Zb, reduceToNat → Zc
open And renaming intro → Ai
open Go.AM renaming ashift → Qa, aconv → Qb, aindexAddr → Qc, aindex → Qd, aslice → Qe, abuiltin → Qf, awp_reg_seq → wS, awp_reg_end → wE, awp_seq_k → wK, awp_cond_k → wC
open Go.AM.AV renaming cells → Qg, one → Qh
set_option maxRecDepth 100000
set_option maxHeartbeats 8000000
namespace Go.Proofs.YtbiefppedlodiaaGreatDoor
open Go Go.AM Go.Proofs Tryz
variable {Γ : Nat→List AV}
def n6 (n : Nat) : Bool:=decide (2≤(n : Int)) && decide ((n : Int)≤2305843009213693949)
def B0 (t : List ao) (leaf : Nat) (fresh : List Int) (q : aM) (i : Nat) : Bool :=
 n6 q.key && decide (q.c7.length = (bQ t (cC (nodeAt leaf (bj t) i) : Nat) fresh).length)
def vb (t : List ao) (leaf : Nat) (fresh : List Int) (l : List aM) : Bool:=(List.range l.length).all fun i=>B0 t leaf fresh (l.getD i ⟨0,[]⟩) i
def p7 (t : List ao) (leaf : Int) (p : bE) (fresh : List Int) : List ao × Int :=
 if oV t leaf≠0 then ([],oV t leaf)
 else if p.steps.length≠(aH leaf.toNat (bj t)).length∨n6 p.key = false then ([],45)
 else if vb t leaf.toNat fresh p.steps = false then ([],45)
 else
  let out:=iW t leaf.toNat p.key (p.steps.map (·.key)) fresh
  if (nd out (2 * leaf.toNat)).parent = p.parent then (out,0) else ([],45)
theorem qI {t : List ao} {i : Int} : oV t i = 0↔bO t∧l7 t i:=by
 unfold oV;split
 ·split <;> simp_all
 ·simp_all
theorem Bg (ev : Γ 0 = ew Sha.H0) (ig : Γ 1 = Sha.K.map wV) (hG : Γ 3 = fM.map pg) (t : List ao) (ht : gG t) (MA : t.length≤2 ^ 30) (hw : ∀ n ∈ t,p5 n) (leaf : Int)
  (p : bE) (hp : p.steps.length≤2 ^ 40) (fresh : List Int) (hf : fresh.length≤2 ^ 40) (s : AS) :
  ah prog Γ 15 [bA t,.v (.int .i64 leaf),.agg p.cells,aR fresh .any] s (fun r s'=>r = .eJ [bA (p7 t leaf p fresh).1,.v (.int .i64 (p7 t leaf p fresh).2)]∧s' = s):=by
 refine ab func15 rfl ntmps15 results15 (by simp) ?_;have MB:=fun s=>wj (Γ:=Γ) hG t ht leaf s;have fZ:=fun s=>iD (Γ:=Γ) hG t ht s;have TM:=fun n s=>ca (Γ:=Γ) n s;have kE:=fun x s=>jk (Γ:=Γ) hG t ht x fresh (by omega) s;have MD:=fun hr leaf hm key keys hk s=>tG (Γ:=Γ) ev ig hG t ht MA hw hr leaf hm key keys hk fresh hf s;obtain ⟨A,hA⟩ : ∃ A,A = p7 t leaf p fresh:=⟨_,rfl⟩;rw [← hA];have qL : (AV.v (.slice none 0 0)).aA (bA []):=AV.aJ;obtain ⟨py,VN,sE⟩:=p;unfold bE.cells;unfold bA at MB fZ kE ⊢;unfold aR at kE ⊢;simp only at hp;have oc:=fun i (h : i < sE.length)=>fN (c:=aM.cells) (k:=2) (fun _=>rfl) h;generalize hY : aK aM.cells sE = Y at *
 generalize hXe : aK ao.cells t = X at *
 unfold aj;refine aU 6 (by decide) ?_;intro K hK;refine jM ?_;intro o1 h1;refine hK _ _ o1 _ rfl h1 ?_;clear hK K h1;refine wK fun K hK=>?_;refine jK (MB _) ?_;rintro s1 rfl;by_cases he : oV t leaf = 0
 ·have e0 : (oV t leaf != 0) = false:=(by simp [he]);refine jB @e0 ?_;refine jF ?_;refine ag ?_;refine hK _ _ ?_;clear hK K;obtain ⟨hr,hm⟩:=qI.1 he;obtain ⟨lf,rfl⟩:=Int.eq_ofNat_of_zero_le hm.1;obtain ⟨dS,lT⟩ : Fit (bj t)∧t.length = 2 * bj t - 1:=by
   rcases dn (t:=t) with h | h
   ·exact absurd h hr.1
   ·exact h
  have oW:=dS.le;have pV : lf < bj t:=by
   have:=hm.2.1;omega
  have GF:=ni dS pV;have GM:=fun s=>iE (Γ:=Γ) hG lf (bj t) dS pV s;have HD : (bw (cR lf (bj t))).length = (aH lf (bj t)).length:=(by simp [cJ,cR]);have TQ : ∀ i,i < (aH lf (bj t)).length→(List.take 1 (List.drop i ((bw (cR lf (bj t))).map aV)))[0]? = some (AV.v (.int .i64 (cC (nodeAt lf (bj t) i) : Nat))):=by
   intro i hi;simp [List.getElem?_take,bw,cR,hi,aV]
  unfold aR at GM;generalize bw (cR lf (bj t)) = SD at *
  rw [if_pos hr] at fZ;unfold p7 at hA;rw [if_neg (by rw [he]; simp)] at hA;simp only [Int.toNat_natCast] at hA;refine jQ fun K hK=>?_;refine ad (fZ _) ?_;rintro r s2 ⟨rfl,rfl⟩;refine jM ?_;refine ad (GM _) ?_;rintro r s3 ⟨rfl,rfl⟩;refine jR hK ?_;clear hK K;have kN : A = ([],45)→∀ (E : Env) (s5 : AS),s3.le s5→E 8 = .v (.slice none 0 0)→E 9 = .v (.int .i64 45)→bz prog (#[ResultVar.tmp 8,ResultVar.tmp 9] : Array ResultVar).toList (fun r s'=>r = .eJ [.sl 5 A.1.length (aK ao.cells A.1) .any,.v (.int .i64 A.2)]∧s' = s3) E s5:=by
   intro hA' E s5 hle f8 f9;rw [hA'];simp only [bz,bD,dy,f8,f9];exact ⟨_,_,AV.dd qL (AV.aA.refl _),hle,rfl,rfl⟩
  refine wK fun K hK=>?_;by_cases hl : sE.length = (aH lf (bj t)).length
  ·have e1 : ((sE.length : Int) != (SD.length : Int)) = false:=(by rw [HD,hl]; simp);refine jS @e1 fun K hK=>?_;refine ad (TM py _) ?_;rintro r s4 ⟨rfl,rfl⟩;obtain ⟨q,hq⟩ : ∃ q,q = n6 py:=⟨_,rfl⟩;have Mv : (decide (2≤(py : Int)) && decide ((py : Int)≤2305843009213693949)) = q:=hq.symm;rw [Mv];cases q with
   | false =>
    rw [if_pos (.inr hq.symm)] at hA;refine jR hK ?_;clear hK K;refine jE ?_;refine jA ?_;refine a7 ?_;try simp only [az,aw]
    exact kN hA _ _ (AS.le.refl _) rfl rfl
   | true =>
    rw [if_neg (by rw [← hq]; simp [hl])] at hA;refine jR hK ?_;clear hK K;refine jF ?_;refine ag ?_;refine hK _ _ ?_;clear hK K;have xaL : ∀ i,(h : i < sE.length)→B0 t lf fresh sE[i] i = false→A = ([],45):=by
     intro i h hb;rw [hA,if_pos];unfold vb;rw [List.all_eq_false];exact ⟨i,by simpa using h,by simp [List.getD,h,hb]⟩
    have UI : (∀ i,(h : i < sE.length)→B0 t lf fresh sE[i] i = true)→vb t lf fresh sE = true:=by
     intro h;unfold vb;rw [List.all_eq_true];intro i hi;have bc : i < sE.length:=(by simpa using hi);simp [List.getD,bc,h i bc]
    obtain ⟨kl,u9⟩ : ∃ kl,kl = sE.map (·.key):=⟨_,rfl⟩;have xea : kl.length = sE.length:=(by rw [u9,List.length_map]);have xeb : ∀ i,(h : i < sE.length)→(kl.take (i + 1)).map kf = (kl.take i).map kf ++ [.v (.int .u64 (sE[i].key : Nat))]:=by
     intro i h;rw [List.take_succ_eq_append_getElem (by omega),List.map_append];simp [u9,kf]
    rw [← u9] at hA;have ON : s4.le s4:=AS.le.refl _;refine jA ?_;refine wK fun K hK=>?_;refine jA ?_;refine al ?_;refine aE (fun E s'=>∃ (i : Nat) (x : AV),i≤sE.length∧(∀ j,(h : j < sE.length)→j < i→B0 t lf fresh sE[j] j = true)∧E 39 = .sl 2 sE.length Y .any∧E 40 = .v (.int .i64 sE.length)∧E 41 = .v (.int .i64 i)∧E 0 = .sl 5 t.length X .any∧E 1 = .v (.int .i64 lf)∧E 3 = .sl 1 fresh.length (fresh.map aV) .any ∧
      E 6 = .dq [.v (.int .u64 py),.sl 1 VN.length (VN.map ai) .any,.sl 2 sE.length Y .any]∧E 11 = .sl 1 SD.length (SD.map aV) .any∧E 12 = x∧cO 1 s4 s' x i ((kl.take i).map kf)∧s4.le s')
     (fun E _=>match E 41 with | .v (.int _ i)=>sE.length - i.toNat | _=>0) ?_ ?_
    ·exact ⟨0,bZ,Nat.zero_le _,fun j _ h=>absurd h (Nat.not_lt_zero _),rfl,rfl,rfl,rfl,rfl,rfl,rfl,rfl,rfl,cO.nil _ _ _,ON⟩
    ·rintro E1 s5 ⟨i,x,hi,Fo,e39,e40,VO,f0,f1,f3,f6,f11,f12,hx,gY⟩ -
     by_cases bc : i < sE.length
     ·have bS : ((i : Nat) : Int) < ((sE.length : Nat) : Int):=(by omega);have dr : (0 : Int)≤((i : Nat) : Int):=(by omega);have kR : ((i : Nat) : Int) < ((SD.length : Nat) : Int):=(by omega);have dI:=oc i bc;have JI:=TQ i (by omega);have Vj:=xaL i bc;have ft:=xeb i bc;refine jB (Ai @e40 (Ai @VO (decide_eq_true bS))) ?_;refine wK fun K2 aW=>?_;refine jE ?_;refine ag ?_;refine aW _ _ ?_;clear aW K2;refine wK fun K3 bC=>?_;refine al ?_;generalize hQe : sE[i] = Q at *
      obtain ⟨qk,qs⟩:=Q;unfold aM.cells at dI;refine aU 14 (by decide) ?_;intro K4 ei;refine jN (Ai @e39 (Ai @VO (Ai @bS (Ai @dr @dI)))) ?_;intro o2 q2;refine ei _ _ o2 _ rfl q2 ?_;clear ei K4 q2;refine wK fun K4 ei=>?_;have NY : B0 t lf fresh ⟨qk,qs⟩ i = (n6 qk && decide (qs.length = (bQ t (cC (nodeAt lf (bj t) i) : Nat) fresh).length)):=rfl;have OL:=fun s=>kE (cC (nodeAt lf (bj t) i) : Nat) s;obtain ⟨RT,hRT⟩ : ∃ RT,RT = bQ t (cC (nodeAt lf (bj t) i) : Nat) fresh:=⟨_,rfl⟩;rw [← hRT] at OL NY;obtain ⟨q,VD⟩ : ∃ q,q = n6 qk:=⟨_,rfl⟩;have Sa : (decide (2≤(qk : Int)) && decide ((qk : Int)≤2305843009213693949)) = q:=VD.symm;have hpq:=fun s=>TM qk s;rw [Sa] at hpq;rw [← VD] at NY;refine bB T.mixed [2,14] (by kernel_rfl) ?_;intro K hK;refine jN (Ai @f0 (Ai @f3 @f11)) ?_;refine ad (hpq _) ?_;rintro r s6 ⟨rfl,rfl⟩;cases q with
      | false =>
       refine jR hK ?_;clear hK K;refine jE ?_;refine jA ?_;refine a7 ?_;try simp only [az,aw]
       exact kN (Vj (by rw [NY]; rfl)) _ _ gY rfl rfl
      | true =>
       refine jN (Ai @f0 (Ai @f3 (Ai @f11 (Ai @dr (Ai @kR @JI))))) ?_;refine ad (OL _) ?_;rintro r s7 ⟨rfl,rfl⟩;by_cases TF : qs.length = RT.length
       ·have e1 : ((qs.length : Int) != (RT.length : Int)) = false:=(by rw [TF]; simp);refine jV @e1 hK ?_;clear hK K;refine jF ?_;refine ag ?_;refine ei _ _ ?_;clear ei K4;have cW : ∀ (E : Env) (s6 : AS) (x' : AV),E 39 = .sl 2 sE.length Y .any→E 40 = .v (.int .i64 sE.length)→E 41 = .v (.int .i64 i)→E 0 = .sl 5 t.length X .any→E 1 = .v (.int .i64 lf)→E 3 = .sl 1 fresh.length (fresh.map aV) .any →
          E 6 = .dq [.v (.int .u64 py),.sl 1 VN.length (VN.map ai) .any,.sl 2 sE.length Y .any]→E 11 = .sl 1 SD.length (SD.map aV) .any→E 12 = x'→cO 1 s4 s6 x' (i + 1) ((kl.take (i + 1)).map kf)→s4.le s6→K3 E s6:=by
         intro E s6 x' g39 Ut g41 g0 g1 g3 g6 g11 g12 gx gle;refine bC _ _ ?_;clear bC K3;refine jD (Ai @g41 (bt i (by omega))) ?_;refine ⟨⟨i + 1,x',bc,?_,g39,Ut,rfl,g0,g1,g3,g6,g11,g12,gx,gle⟩,?_⟩
         ·intro j hj Ev;by_cases e : j = i
          ·subst e;rw [hQe,NY,decide_eq_true TF];rfl
          ·exact Fo j hj (by omega)
         ·simp only [VO,aF,↓reduceIte];omega
        clear bC;rcases hx with ⟨rfl,ic,BT⟩ | ⟨tk,ek,rfl,vB,zV⟩
        ·refine wE fun K hK=>?_;simp only [↓DN,Qa,Qb,Qc,Qd,Qe,Qf,Qg,Qh,reduceCtorEq,↓reduceIte,Na,Nb,Nc,Nk,Nf,Ng,Nh,Za,Zb,Zc,TT,f12,bZ,List.replicate_succ];intro tk vB;refine hK _ _ (cW _ _ (.sl 1 1 [.v (.int .u64 qk)] (.own tk 0)) e39 e40 VO f0 f1 f3 f6 f11 rfl ?_ ?_)
         ·refine .inr ⟨tk,0,?_,by simp [AS.bo],bN gY vB⟩;rw [ft,BT];subst ic;rfl
         ·exact AS.bG gY (bN gY vB) 0
        ·refine wE fun K hK=>?_;simp only [↓DN,Qa,Qb,Qc,Qd,Qe,Qf,Qg,Qh,reduceCtorEq,↓reduceIte,Na,Nb,Nc,Nk,Nf,Ng,Nh,Za,Zb,Zc,TT,f12,vB,List.replicate_succ];refine ⟨by omega,by omega,hK _ _ (cW _ _ (.sl 1 (i + 1) ((kl.take i).map kf ++ [.v (.int .u64 qk)]) (.own tk (ek + 1))) e39 e40 VO f0 f1 f3 f6 f11 rfl ?_ ?_)⟩
         ·exact .inr ⟨tk,ek + 1,by rw [ft],by simp [AS.bo],zV⟩
         ·exact AS.bG gY zV (ek + 1)
       ·have e1 : ((qs.length : Int) != (RT.length : Int)) = true:=by
         rw [bne_iff_ne];omega
        refine jV @e1 hK ?_;clear hK K;refine jE ?_;refine jA ?_;refine a7 ?_;try simp only [az,aw]
        exact kN (Vj (by rw [NY,decide_eq_false TF]; rfl)) _ _ gY rfl rfl
     ·have bS : ¬ ((i : Nat) : Int) < ((sE.length : Nat) : Int):=(by omega);refine jB (Ai @e40 (Ai @VO (decide_eq_false bS))) ?_;refine wK fun K2 aW=>?_;refine jF ?_;refine aC ?_;simp only [az,aw,if_true];refine hK _ _ ?_;clear hK aW K2 K;obtain rfl : i = sE.length:=(by omega);rw [if_neg (by rw [UI fun j h=>Fo j h h]; simp)] at hA;rw [List.take_of_length_le (by omega)] at hx;obtain ⟨out,bu⟩ : ∃ out,out = iW t lf py kl fresh:=⟨_,rfl⟩;rw [← bu] at hA;have hwt:=fun s=>ah.iU (.cons (.refl _) (.cons (.refl _) (.cons (.refl _) (.cons hx.aA (.cons (.refl _) .nil))))) (by
       have:=MD hr lf hm py kl (by omega) s;rw [← bu] at this;unfold Fp bA aR at this;rw [hXe,xea] at this;exact this)
      have Qz : out.length = t.length:=(by rw [bu]; unfold iW; simp only [List.length_set]; exact lJ ..);have hu : 2 * lf < out.length:=(by omega);have dI:=fY hu;have dr : (0 : Int)≤((2 * lf : Nat) : Int):=(by omega);have bS : ((2 * lf : Nat) : Int) < ((out.length : Nat) : Int):=(by omega);have heq:=fun s=>dg (Γ:=Γ) (nd out (2 * lf)).parent VN s;generalize hZ : aK ao.cells out = Z at *
      obtain ⟨N,hN⟩ : ∃ N,N = nd out (2 * lf):=⟨_,rfl⟩;rw [← hN] at dI heq hA;obtain ⟨na,nb,nc,zh,nu⟩:=N;unfold ao.cells at dI;unfold aj at dI heq;simp only at heq hA;refine jS (Ai @f0 (Ai @f1 (Ai @f6 (Ai @f12 @f3)))) fun K hK=>?_;refine ad (hwt _) ?_;rintro r s6 ⟨rfl,rfl⟩;refine jR hK ?_;clear hK K;refine wK fun K hK=>?_;refine bB T.mixed [8] (by kernel_rfl) ?_;intro K hK;refine jN (Ai @f1 (Ai @f6 (Ai (eG lf (by omega)) (Ai @dr (Ai @bS (Ai @ax (Ai @hu @dI))))))) ?_;refine ad (heq _) ?_;rintro r s7 ⟨rfl,rfl⟩;by_cases Vx : zh = VN
      ·rw [if_pos Vx] at hA;rw [decide_eq_true Vx];refine jR hK ?_;clear hK K;refine jF ?_;refine ag ?_;refine hK _ _ ?_;clear hK K;refine jA ?_;refine jI ?_;rw [hA];refine ⟨_,_,AV.aA.refl _,gY,?_,rfl⟩;rw [hZ]
      ·rw [if_neg Vx] at hA;rw [decide_eq_false Vx];refine jR hK ?_;clear hK K;refine jE ?_;refine jA ?_;refine a7 ?_;try simp only [az,aw]
       exact kN hA _ _ gY rfl rfl
  ·have e1 : ((sE.length : Int) != (SD.length : Int)) = true:=by
    rw [HD,bne_iff_ne];omega
   rw [if_pos (.inl hl)] at hA;refine jB @e1 ?_;refine jE ?_;refine jA ?_;refine a7 ?_;try simp only [az,aw]
   exact kN hA _ _ (AS.le.refl _) rfl rfl
 ·have e0 : (oV t leaf != 0) = true:=(by simp [he]);refine jB @e0 ?_;refine jE ?_;refine jA ?_;refine jI ?_;unfold p7 at hA;rw [if_pos he] at hA;rw [hA];exact ⟨_,_,AV.dd qL (AV.aA.refl _),AS.le.refl _,rfl,rfl⟩
def filled (n k : Nat) (c : UInt8) : List UInt8:=List.replicate k c ++ List.replicate (n - k) 0
theorem ug (o : Nat) (l : List UInt8) (h0 : l≠[]) (hl : l.length≤2 ^ 40) (s : AS) (ho : s.aq o = some (l.map ai)) :
  ah prog Γ 90 [.gw o 0 1 l.length l.length] s (fun r s'=>dX s l r s'):=by
 refine ab func90 rfl ntmps90 results90 (by simp) ?_;have hp : ¬ l.length = 0:=fun e=>h0 (List.eq_nil_of_length_eq_zero e);refine jA ?_;refine wK fun K hK=>?_;refine jA ?_;refine jF ?_;refine ag ?_;refine hK _ _ ?_;clear hK K;refine wS fun K hK=>?_;simp only [↓DN,Qa,Qb,Qc,Qd,Qe,Qf,Qg,Qh,reduceCtorEq,↓reduceIte,Na,Nb,Nc,Nk,Nf,Ng,Nh,Za,Zb,Zc,TT,ho,hp,Nat.le_refl,List.take_length];refine ⟨by omega,by omega,fun t ht=>hK _ _ ?_⟩;clear hK K;refine jI ?_;exact ⟨_,_,AV.aA.refl _,AS.le.refl _,AS.bG (AS.le.refl s) ht 0,.inr ⟨t,0,ht,by simp [AS.bo,aF],rfl⟩⟩
theorem _root_.Go.AM.dX.behind {s s' : AS} {l : List UInt8} {r : AV} {o : Nat} {cs : List AV} (h : dX (s.set o cs) l r s') (ho : s.aq o = none) : dX s l r s' :=
 ⟨AS.le.trans (AS.aB (AS.le.refl s) ho _) h.1,h.2⟩
theorem UJ : ((64 : Nat) : Int) = 64:=rfl
theorem oM (l : List UInt8) (hl : l.length = 64) (x : UInt8) (s : AS) :
  ah prog Γ 213 [.agg (l.map ai),ai x] s (fun r s'=>dX s (Mac.turn x l) r s'):=by
 refine ab func213 rfl ntmps213 results213 (by simp) ?_;have ur : (l.map ai).length = 64:=(by rw [List.length_map,hl]);rw [show ai x = .v (.int .u8 (x.toNat : Int)) from rfl];refine jS @ur fun K hK=>?_;intro o ho;refine hK _ _ ?_;clear hK K;refine wK fun K hK=>?_;refine jA ?_;refine al ?_;refine aE (fun E s2=>∃ i : Nat,i≤64∧E 1 = .v (.int .u8 (x.toNat : Int))∧E 2 = .ptr o 0∧E 6 = .v (.int .i64 i)∧s2 = s.set o ((Mac.part x l i).map ai))
  (fun E _=>match E 6 with | .v (.int _ y)=>64 - y.toNat | _=>0) ?_ ?_
 ·exact ⟨0,by omega,by simp only [aF,br,Nc,↓reduceIte,List.getD_cons_succ,List.getD_cons_zero],rfl,rfl,by rw [Mac.Kv]⟩
 ·rintro E2 s2 ⟨i,hi,g1,g2,g6,rfl⟩ -
  by_cases bc : i < 64
  ·have bS : (i : Int) < 64:=(by omega);have kR : (i : Int) < ((64 : Nat) : Int):=(by omega);have ic : (0 : Int)≤(i : Int):=(by omega);have gn:=Mac.M4 x l i (by omega);have cg:=Mac.M5 x l i (by omega);have hlen : ((Mac.part x l i).map ai).length = 64:=(by rw [List.length_map,Mac.FE,hl]);have NZ:=Mac.zk (l.getD i 0) x;generalize l.getD i 0 = c at *
   rw [show ai c = .v (.int .u8 (c.toNat : Int)) from rfl] at gn;rw [show ai (c ^^^ x) = .v (.int .u8 ((c ^^^ x).toNat : Int)) from rfl] at cg;refine jB (Ai @g6 (decide_eq_true bS)) ?_;refine wK fun K2 aW=>?_;refine jE ?_;refine ag ?_;refine aW _ _ ?_;clear aW K2;refine wK fun K3 bC=>?_;refine al ?_;refine jB @g6 ?_;generalize OX : (Mac.part x l i).map ai = X0 at *
   refine jU (Ai @g1 (Ai @g2 (Ai @g6 (Ai @ic (Ai @bS (Ai @kR (Ai @hlen (Ai @gn (Ai @NZ (Ai @cg @UJ)))))))))) fun K hK=>?_;refine ⟨by omega,?_⟩;refine hK _ _ ?_;clear hK K;simp only [az,aw,if_true,if_false];refine bC _ _ ?_;clear bC K3;refine jD (Ai @g6 (cS i (by omega))) ?_;refine ⟨⟨i + 1,by omega,g1,g2,rfl,rfl⟩,?_⟩;simp only [g6,aF,↓reduceIte];omega
  ·have bS : ¬ (i : Int) < 64:=(by omega);obtain rfl : i = 64:=(by omega);refine jB (Ai @g6 (decide_eq_false bS)) ?_;refine wK fun K2 aW=>?_;refine jF ?_;refine aC ?_;simp only [az,aw,if_true];clear aW K2;refine hK _ _ ?_;clear hK K;rw [Mac.M3 x l 64 (by omega)];have lT : (Mac.turn x l).length = 64:=(by rw [Mac.ns,hl]);refine jS (Ai @g2 @Int.le_refl) fun K hK=>?_;have hc:=ug (Γ:=Γ) o (Mac.turn x l) (by rw [← List.length_pos_iff]; omega) (by omega) (s.set o ((Mac.turn x l).map ai)) (AS.aa _ _ _);rw [lT] at hc;refine ad hc ?_;intro r s3 bu;refine jR hK ?_;clear hK K;refine jI ?_;exact ⟨_,_,AV.aA.refl _,AS.le.refl _,bu.behind ho⟩
theorem _root_.Go.AM.dX.under {s s1 s2 : AS} {l : List UInt8} {r : AV} (h : dX s1 l r s2) (hle : s.le s1) : dX s l r s2:=by
 refine ⟨AS.le.trans hle h.1,?_⟩;rcases h.2 with h | ⟨t,e,h1,h2,h3⟩
 ·exact .inl h
 ·refine .inr ⟨t,e,?_,h2,h3⟩;cases hs : s.own t with
  | none=>rfl
  | some g=>rw [hle.own t g hs] at h1; cases h1
theorem xed : ba prog 232 = some (List.replicate 64 (.v (.int .u8 0))):=by kernel_rfl
theorem ov (ev : Γ 0 = ew Sha.H0) (hG : Γ 1 = Sha.K.map wV) (key : List UInt8) (ls : List (List UInt8)) (sp : Sp) (hk : key.length≤2 ^ 38) (hn : ls.length≤2 ^ 38) (hl : ls.flatten.length≤2 ^ 38) (s : AS) :
  ah prog Γ 180 [aj key .any,.sl 1 ls.length (gu ls) sp] s (fun r s'=>dX s (Mac.tag key ls.flatten) r s'):=by
 refine ab func180 rfl ntmps180 results180 (by simp) ?_;refine jA ?_;refine wK fun K hK=>?_;have wc : ∀ (E1 : Env) (s1 : AS) (sp1 : Sp),E1 0 = .sl 1 (Mac.key key).length ((Mac.key key).map ai) sp1→E1 1 = .sl 1 ls.length (gu ls) sp→s.le s1→K E1 s1:=by
  intro E1 s1 sp1 e0 e1 hle;refine hK _ _ ?_;clear hK K;have u9:=Mac.M0 key;generalize hkk : Mac.key key = kk at *
  refine jS @xed fun K hK=>?_;intro o ho;refine hK _ _ ?_;clear hK K;have h0 : (0 : Int)≤((64 : Nat) : Int):=(by decide);have ft : (kk.map ai).take kk.length = kk.map ai:=List.take_of_length_le (by simp);have xY : min kk.length 64 = kk.length:=Nat.min_eq_left u9;have Ea : bn (List.replicate 64 (.v (.int .u8 0))) 0 (kk.map ai) = (Mac.fill kk).map ai:=Mac.HR kk u9;refine wS fun K hK=>?_;simp only [↓DN,Qa,Qb,Qc,Qd,Qe,Qf,Qg,Qh,reduceCtorEq,↓reduceIte,Na,Nb,Nc,Nk,Nf,Ng,Nh,Za,Zb,Zc,TT,e0,h0,Int.le_refl,ite_self,xY,ft,Ea,List.length_replicate,u9];refine hK _ _ ?_;clear hK K;have oW:=Mac.qd kk u9;have xaN : ((Mac.fill kk).map ai).length = 64:=(by rw [List.length_map,oW]);have htf : ((Mac.fill kk).map ai).take 64 = (Mac.fill kk).map ai:=List.take_of_length_le (by omega);have xaO : ∀ x : AV,List.replicate 2 x = [x,x]:=fun _=>rfl;generalize hb : Mac.fill kk = bl at *
  have OU:=oM (Γ:=Γ) bl oW 54;have T7:=oM (Γ:=Γ) bl oW 92;have tl1 : (Mac.turn 54 bl).length = 64:=(by rw [Mac.ns,oW]);have tl2 : (Mac.turn 92 bl).length = 64:=(by rw [Mac.ns,oW]);rw [show ai 54 = .v (.int .u8 54) from rfl] at OU;rw [show ai 92 = .v (.int .u8 92) from rfl] at T7;refine jS (Ai @htf (Ai @xaN @Nat.le_refl)) fun K hK=>?_;refine ad (OU _) ?_;intro r s2 bu;have fC : s.le s2:=(AS.le.trans hle (AS.aB (AS.le.refl s1) ho _)).trans bu.1;have iR : s2.aq o = some (bl.map ai):=bu.1.aq _ _ (AS.aa _ _ _);have JX:=bu.aA;obtain ⟨t1,g1,rfl⟩:=ct bu (by rw [← List.length_pos_iff,tl1]; decide);clear bu;refine jN @e1 ?_;refine ad (kU ls sp (by omega) (by omega) _) ?_;intro r s3 bu;have gX : s.le s3:=AS.le.trans fC bu.1;have oY : s3.aq o = some (bl.map ai):=bu.1.aq _ _ iR;have hw2:=bu.aA;have iQ:=kZ (Γ:=Γ) ev hG [Mac.turn 54 bl,ls.flatten] .new (by simp) (by simp only [List.flatten_cons,List.flatten_nil,List.append_nil,List.length_append,tl1]; omega) s3;rw [show [Mac.turn 54 bl,ls.flatten].flatten = Mac.turn 54 bl ++ ls.flatten from by simp] at iQ;have Jf : Sha.sum (Mac.turn 54 bl ++ ls.flatten) = Mac.inner key ls.flatten:=(by rw [Mac.inner,hkk,hb]);have FV : Sha.sum (Mac.turn 92 bl ++ Mac.inner key ls.flatten) = Mac.tag key ls.flatten:=(by rw [Mac.tag,hkk,hb]);rw [Jf] at iQ;have xaP : ∀ (E2 : Env) (s4 : AS) (r : AV),E2 5 = .ptr o 0→E2 6 = r→dX s3 (Mac.inner key ls.flatten) r s4→K E2 s4:=by
   intro E2 s4 r g5 g6 bu;refine hK _ _ ?_;clear hK K;have iJ : s.le s4:=AS.le.trans gX bu.1;have zq : s4.aq o = some (bl.map ai):=bu.1.aq _ _ oY;have Tj:=bu.aA;have Pq:=Mac.B9 key ls.flatten;obtain ⟨t3,g3,rfl⟩:=ct bu (by rw [← List.length_pos_iff,Pq]; decide);clear bu;refine jS (Ai @g5 (Ai @zq (Ai @htf (Ai @xaN @Nat.le_refl)))) fun K hK=>?_;refine ad (T7 _) ?_;intro r s5 bu;have hw4:=bu.aA;have gY : s.le s5:=AS.le.trans iJ bu.1;obtain ⟨t4,g4,rfl⟩:=ct bu (by rw [← List.length_pos_iff,tl2]; decide);clear bu;have oR:=kZ (Γ:=Γ) ev hG [Mac.turn 92 bl,Mac.inner key ls.flatten] .new (by simp) (by simp only [List.flatten_cons,List.flatten_nil,List.append_nil,List.length_append,tl2,Pq]; omega) s5;rw [show [Mac.turn 92 bl,Mac.inner key ls.flatten].flatten = Mac.turn 92 bl ++ Mac.inner key ls.flatten from by simp,FV] at oR;refine jN (Ai @g6 @xaO) ?_;refine ad (ah.iU (eL.aA.cons (AV.gF (eL.aA.cons hw4 (eL.aA.cons Tj eL.aA.nil))) eL.aA.nil) oR) ?_;intro r s6 bu;refine jR hK ?_;clear hK K;refine jI ?_;exact ⟨_,_,AV.aA.refl _,AS.le.refl _,bu.under gY⟩
  rcases bu.2 with ⟨_,rfl⟩ | ⟨t2,g2,_,_,rfl⟩;all_goals
   refine jN @xaO ?_;refine ad (ah.iU (eL.aA.cons (AV.gF (eL.aA.cons JX (eL.aA.cons hw2 eL.aA.nil))) eL.aA.nil) iQ) ?_;intro r s4 bu;refine jM ?_;refine xaP _ _ r ?_ ?_ bu
   ·simp only [aF,Nc,↓reduceIte]
   ·simp only [aF,↓reduceIte]
 by_cases FW : 64 < key.length
 ·have np : Mac.key key = Sha.sum key:=(by rw [Mac.key,if_pos FW]);rw [np] at wc;refine jB (decide_eq_true (show (64 : Int) < (key.length : Int) by omega)) ?_;refine jE ?_;refine wE fun K hK=>?_;simp only [↓DN,Qa,Qb,Qc,Qd,Qe,Qf,Qg,Qh,reduceCtorEq,↓reduceIte,Na,Nb,Nc,Nk,Nf,Ng,Nh,Za,Zb,Zc,TT,List.replicate_one];have oq:=kZ (Γ:=Γ) ev hG [key] .new (by simp) (by simp; omega) s;rw [show [key].flatten = key from by simp] at oq;refine ad oq ?_;intro r s1 bu;obtain ⟨t,g,rfl⟩:=ct bu (by rw [← List.length_pos_iff,Sha.dQ]; decide);refine jR hK ?_;clear hK K;simp only [az];refine wc _ _ (.own t g) ?_ ?_ bu.1
  ·simp only [aF,↓reduceIte]
  ·simp only [aF,br,Nc,↓reduceIte,List.getD_cons_succ,List.getD_cons_zero]
 ·have np : Mac.key key = key:=(by rw [Mac.key,if_neg FW]);rw [np] at wc;refine jB (decide_eq_false (show ¬ (64 : Int) < (key.length : Int) by omega)) ?_;refine jF ?_;refine ag ?_;simp only [az];refine wc _ _ .any ?_ ?_ (AS.le.refl s)
  ·simp only [aF,br,Nc,↓reduceIte,List.getD_cons_succ,List.getD_cons_zero,aj]
  ·simp only [aF,br,Nc,↓reduceIte,List.getD_cons_succ,List.getD_cons_zero]
theorem N0 (k : List UInt8) (i : Nat) (h : i < k.length) (hk : k.length≤64) : (Mac.fill k)[i]'(by rw [Mac.qd k hk]; omega) = k[i]:=by
 simp only [Mac.fill];rw [List.getElem_append_left h]
theorem N1 (k : List UInt8) (i : Nat) (h : ¬ i < k.length) (hi : i < 64) (hk : k.length≤64) : (Mac.fill k)[i]'(by rw [Mac.qd k hk]; omega) = 0:=by
 simp only [Mac.fill];rw [List.getElem_append_right (by omega),List.getElem_replicate]
theorem KP (x : UInt8) (l : List UInt8) (i : Nat) (h : i < l.length) : Mac.turn x (l.take (i + 1)) = Mac.turn x (l.take i) ++ [l[i] ^^^ x]:=by
 rw [List.take_succ_eq_append_getElem h];simp only [Mac.turn,List.map_append,List.map_cons,List.map_nil]
theorem oN (key : List UInt8) (hk : key.length≤64) (x : UInt8) (s : AS) :
  ah prog Γ 203 [.v (.string ⟨key.toArray⟩),.v (.int .u8 (x.toNat : Int))] s (fun r s'=>r = .v (.string ⟨(Mac.turn x (Mac.fill key)).toArray⟩)∧s' = s):=by
 refine ab func203 rfl ntmps203 results203 (by simp) ?_;have oW:=Mac.qd key hk;refine jA ?_;refine jA ?_;refine wK fun K hK=>?_;refine jA ?_;refine al ?_;refine aE (fun E s1=>∃ i : Nat,i≤64∧E 0 = .v (.string ⟨key.toArray⟩)∧E 1 = .v (.int .u8 (x.toNat : Int))∧E 6 = .v (.int .i64 i)∧dX s (Mac.turn x ((Mac.fill key).take i)) (E 5) s1)
  (fun E _=>match E 6 with | .v (.int _ i)=>64 - i.toNat | _=>0) ?_ ?_
 ·exact ⟨0,Nat.zero_le _,by simp only [aF,br,Nc,↓reduceIte,List.getD_cons_succ,List.getD_cons_zero],by simp only [aF,br,Nc,↓reduceIte,List.getD_cons_succ,List.getD_cons_zero],rfl,by simp only [aF,Nc,↓reduceIte]; exact dX.nil s⟩
 ·rintro E1 s1 ⟨i,hi,e0,e1,e6,bu⟩ -
  refine wK fun K2 aW=>?_;by_cases bc : i < 64
  ·have bS : (i : Int) < 64:=(by omega);have dr : (0 : Int)≤(i : Int):=(by omega);have hts:=KP x (Mac.fill key) i (by omega);have Ve:=N0 key i;have PE:=N1 key i;refine jB (Ai @e6 (decide_eq_true bS)) ?_;refine jE ?_;refine ag ?_;refine aW _ _ ?_;clear aW K2;refine wK fun K3 bC=>?_;refine al ?_;refine jA ?_;refine wK fun K4 ei=>?_;have wc : ∀ (E2 : Env) (c : UInt8),(Mac.fill key)[i]'(by omega) = c→E2 0 = .v (.string ⟨key.toArray⟩)→E2 1 = .v (.int .u8 (x.toNat : Int))→E2 6 = .v (.int .i64 i)→E2 5 = E1 5→E2 7 = .v (.int .u8 (c.toNat : Int))→K4 E2 s1:=by
    intro E2 c hc f0 f1 f6 f5 f7;refine ei _ _ ?_;clear ei K4;rw [hc] at hts;have NZ:=Mac.zk c x;generalize tY : E1 5 = r6 at bu f5;refine wE fun K hK=>?_;simp only [↓DN,Qa,Qb,Qc,Qd,Qe,Qf,Qg,Qh,reduceCtorEq,↓reduceIte,Na,Nb,Nc,Nk,Nf,Ng,Nh,Za,Zb,Zc,TT,f0,f1,f5,f6,f7,NZ,List.replicate_one];refine dm (ds:=[c ^^^ x]) bu rfl rfl T.c5 T.b5 (by simp [Mac.turn]; omega) ?_;intro r2 s2 h2;rw [← hts] at h2;refine hK _ _ ?_;clear hK K;simp only [az,aw,if_true,if_false];refine bC _ _ ?_;clear bC K3;refine jD (Ai @f6 (cS i (by omega))) ?_;refine ⟨⟨i + 1,by omega,f0,f1,rfl,by simpa only [aF,Nc,↓reduceIte] using h2⟩,?_⟩;simp only [e6,aF,↓reduceIte];omega
   by_cases hik : i < key.length
   ·have gn:=QL key i hik;have hg:=Ve hik hk;generalize key[i] = c at *
    refine jB (Ai @e0 (Ai @e6 (Ai @cp (decide_eq_true (show (i : Int) < (key.length : Int) by omega))))) ?_;refine jE ?_;refine jU (Ai @e0 (Ai @e6 (Ai @dr @gn))) fun K hK=>?_;refine hK _ _ ?_;clear hK;simp only [az];refine wc _ c hg ?_ ?_ ?_ ?_ ?_
    ·simp only [aF,e0,Nc,↓reduceIte]
    ·simp only [aF,e1,Nc,↓reduceIte]
    ·simp only [aF,e6,Nc,↓reduceIte]
    ·simp only [aF,Nc,↓reduceIte]
    ·simp only [aF,↓reduceIte];rfl
   ·have hg:=PE hik bc hk;refine jB (Ai @e0 (Ai @e6 (Ai @cp (decide_eq_false (show ¬ (i : Int) < (key.length : Int) by omega))))) ?_;refine jF ?_;refine ag ?_;simp only [az];refine wc _ 0 hg ?_ ?_ ?_ ?_ ?_
    ·simp only [aF,e0,Nc,↓reduceIte]
    ·simp only [aF,e1,Nc,↓reduceIte]
    ·simp only [aF,e6,Nc,↓reduceIte]
    ·simp only [aF,Nc,↓reduceIte]
    ·simp only [aF,Nc,↓reduceIte];rfl
  ·have bS : ¬ (i : Int) < 64:=(by omega);obtain rfl : i = 64:=(by omega);refine jB (Ai @e6 (decide_eq_false bS)) ?_;refine jF ?_;refine aC ?_;simp only [az,aw,if_true];clear aW K2;refine hK _ _ ?_;clear hK K;rw [List.take_of_length_le (by omega)] at bu;have lT : (Mac.turn x (Mac.fill key)).length = 64:=(by rw [Mac.ns,oW]);have hle:=bu.1;obtain ⟨t,g,e5⟩:=ct bu (by rw [← List.length_pos_iff,lT]; decide);refine jB @e5 ?_;refine jI ?_;exact ⟨_,_,AV.aA.refl _,hle,rfl,rfl⟩
theorem DW (key l : List UInt8) (hk : key.length≤2 ^ 38) (hl : l.length≤2 ^ 38) (s : AS) :
  ah prog Γ 166 [.v (.string ⟨key.toArray⟩),.v (.string ⟨l.toArray⟩)] s (fun r s'=>r = .v (.string ⟨(Mac.tag key l).toArray⟩)∧s' = s):=by
 refine ab func166 rfl ntmps166 results166 (by simp) ?_;refine jA ?_;refine wK fun K hK=>?_;have wc : ∀ (E1 : Env),E1 0 = .v (.string ⟨(Mac.key key).toArray⟩)→E1 1 = .v (.string ⟨l.toArray⟩)→K E1 s:=by
  intro E1 e0 e1;refine hK _ _ ?_;clear hK K;have u9:=Mac.M0 key;have Jf : Sha.sum (Mac.turn 54 (Mac.fill (Mac.key key)) ++ l) = Mac.inner key l:=rfl;have FV : Sha.sum (Mac.turn 92 (Mac.fill (Mac.key key)) ++ Mac.inner key l) = Mac.tag key l:=rfl;have oW:=Mac.qd _ u9;have Pq:=Mac.B9 key l;have tl1 : (Mac.turn 54 (Mac.fill (Mac.key key))).length = 64:=(by rw [Mac.ns,oW]);have tl2 : (Mac.turn 92 (Mac.fill (Mac.key key))).length = 64:=(by rw [Mac.ns,oW]);generalize hkk : Mac.key key = kk at *
  refine jS @e0 fun K hK=>?_;refine ad (oN kk u9 92 s) ?_;rintro r s1 ⟨rfl,rfl⟩;refine jN @e0 ?_;refine ad (oN kk u9 54 s1) ?_;rintro r s2 ⟨rfl,rfl⟩;refine jN (Ai @e1 (dO (show (Mac.turn 54 (Mac.fill kk)).length + l.length < 2 ^ 62 by omega))) ?_;refine ad (om (Mac.turn 54 (Mac.fill kk) ++ l) (by rw [List.length_append,tl1]; omega) s2) ?_;rintro r s3 ⟨rfl,rfl⟩;rw [Jf];refine jN (dO (show (Mac.turn 92 (Mac.fill kk)).length + (Mac.inner key l).length < 2 ^ 62 by omega)) ?_;refine ad (om (Mac.turn 92 (Mac.fill kk) ++ Mac.inner key l) (by rw [List.length_append,tl2,Pq]; decide) s3) ?_;rintro r s4 ⟨rfl,rfl⟩;rw [FV];refine jR hK ?_;clear hK K;exact jJ
 by_cases FW : 64 < key.length
 ·have np : Mac.key key = Sha.sum key:=(by rw [Mac.key,if_pos FW]);rw [np] at wc;refine jB (decide_eq_true (show (64 : Int) < (key.length : Int) by omega)) ?_;refine jE ?_;refine jL (om key (by omega) s) ?_;rintro s1 rfl;simp only [az];refine wc _ ?_ ?_
  ·simp only [aF,↓reduceIte]
  ·simp only [aF,br,Nc,↓reduceIte,List.getD_cons_succ,List.getD_cons_zero]
 ·have np : Mac.key key = key:=(by rw [Mac.key,if_neg FW]);rw [np] at wc;refine jB (decide_eq_false (show ¬ (64 : Int) < (key.length : Int) by omega)) ?_;refine jF ?_;refine ag ?_;simp only [az];refine wc _ ?_ ?_
  ·simp only [aF,br,Nc,↓reduceIte,List.getD_cons_succ,List.getD_cons_zero]
  ·simp only [aF,br,Nc,↓reduceIte,List.getD_cons_succ,List.getD_cons_zero]
def nothing : List UInt8:=[119,104,97,116,32,100,111,32,121,97,32,119,97,110,116,32,102,111,114,32,110,111,116,104,105,110,103,63]
theorem Ic (a b : List UInt8) : gu [a,b] = [aj a .any,aj b .any]:=rfl
theorem FX (c x y : UInt8) : c ||| (x ^^^ y) = 0↔c = 0∧x = y:=by
 rw [UInt8.or_eq_zero_iff,UInt8.xor_eq_zero_iff]
theorem QT (a b : UInt8) : Gy .u8 (a.toNat : Int) (b.toNat : Int) = (((a ||| b).toNat : Nat) : Int):=by
 rw [Bw (k:=.u8) rfl a.toNat b.toNat (by simpa [IntKind.bits] using a.toNat_lt) (by simpa [IntKind.bits] using b.toNat_lt),UInt8.toNat_or]
theorem KR (c : UInt8) : (((c.toNat : Nat) : Int) == 0) = decide (c = 0):=by
 rw [Bool.eq_iff_iff,beq_iff_eq,decide_eq_true_iff,← UInt8.toNat_inj];simp
theorem take_same (a b : List UInt8) (i : Nat) (ha : i < a.length) (hb : i < b.length) : a.take (i + 1) = b.take (i + 1)↔a.take i = b.take i∧a.getD i 0 = b.getD i 0:=by
 rw [List.take_succ_eq_append_getElem ha,List.take_succ_eq_append_getElem hb];have e1 : (a.take i).length = (b.take i).length:=(by simp; omega);constructor
 ·intro h;have:=List.append_inj h e1;refine ⟨this.1,?_⟩;simp only [List.getD_eq_getElem?_getD,List.getElem?_eq_getElem ha,List.getElem?_eq_getElem hb,Option.getD_some];simpa using this.2
 ·rintro ⟨h1,h2⟩;simp only [List.getD_eq_getElem?_getD,List.getElem?_eq_getElem ha,List.getElem?_eq_getElem hb,Option.getD_some] at h2;rw [h1,h2]
theorem Ie (a b : List UInt8) (ha : a.length≤2 ^ 40) (s : AS) :
  ah prog Γ 212 [aj a .any,aj b .any] s (fun r s'=>r = .v (.bool (decide (a = b)))∧s' = s):=by
 refine ab func212 rfl ntmps212 results212 (by simp) ?_;refine jA ?_;refine wK fun K hK=>?_;by_cases dp : a.length = b.length
 ·refine jB (show ((a.length : Int) != (b.length : Int)) = false from by rw [dp]; simp) ?_;refine jF ?_;refine ag ?_;refine hK _ _ ?_;clear hK K;refine jA ?_;refine wK fun K hK=>?_;refine jA ?_;refine al ?_;refine aE (fun E s2=>∃ (i : Nat) (c : UInt8),i≤a.length∧E 0 = .sl 1 a.length (a.map ai) .any∧E 1 = .sl 1 b.length (b.map ai) .any∧E 5 = .v (.int .u8 (c.toNat : Int))∧E 13 = .v (.int .i64 a.length)∧E 14 = .v (.int .i64 i)∧(c = 0↔a.take i = b.take i)∧s2 = s)
   (fun E _=>match E 14 with | .v (.int _ y)=>a.length - y.toNat | _=>0) ?_ ?_
  ·exact ⟨0,0,by omega,by simp only [aF,br,Nc,↓reduceIte,List.getD_cons_succ,List.getD_cons_zero,aj],by simp only [aF,br,Nc,↓reduceIte,List.getD_cons_succ,List.getD_cons_zero,aj],rfl,rfl,rfl,by simp,rfl⟩
  ·rintro E2 s2 ⟨i,c,hi,g0,g1,g5,g13,g14,hc,rfl⟩ -
   by_cases bc : i < a.length
   ·have bS : (i : Int) < (a.length : Int):=(by omega);have kR : (i : Int) < (b.length : Int):=(by omega);have ic : (0 : Int)≤(i : Int):=(by omega);have V7:=Nq a i bc;have hgb:=Nq b i (by omega);have hts:=take_same a b i bc (by omega);generalize a.getD i 0 = x at *
    generalize b.getD i 0 = y at *
    have NZ:=Mac.zk x y;have hor:=QT c (x ^^^ y);have hz:=FX c x y;refine jB (Ai @g13 (Ai @g14 (decide_eq_true bS))) ?_;refine wK fun K2 aW=>?_;refine jE ?_;refine ag ?_;refine aW _ _ ?_;clear aW K2;refine wK fun K3 bC=>?_;refine al ?_;refine jB @g14 ?_;refine eK T.mixed [] (by kernel_rfl) ?_;intro K hK;refine jV (Ai @g0 (Ai @g1 (Ai @g5 (Ai @ic (Ai @bS (Ai @kR (Ai @V7 (Ai @hgb (Ai @NZ @hor))))))))) hK ?_;clear hK K;simp only [az,aw,if_true,if_false];refine bC _ _ ?_;clear bC K3;refine jD (Ai @g14 (cS i (by omega))) ?_;refine ⟨⟨i + 1,c ||| (x ^^^ y),by omega,g0,g1,rfl,g13,rfl,?_,rfl⟩,?_⟩
    ·rw [hz,hc,hts]
    ·simp only [g14,aF,↓reduceIte];omega
   ·have bS : ¬ (i : Int) < (a.length : Int):=(by omega);obtain rfl : i = a.length:=(by omega);refine jB (Ai @g13 (Ai @g14 (decide_eq_false bS))) ?_;refine wK fun K2 aW=>?_;refine jF ?_;refine aC ?_;simp only [az,aw,if_true];clear aW K2;refine hK _ _ ?_;clear hK K;rw [List.take_length,dp,List.take_length] at hc;have hr : (((c.toNat : Nat) : Int) == 0) = decide (a = b):=by
     rw [KR];exact decide_eq_decide.2 hc
    refine jB (Ai @g5 @hr) ?_;exact jJ
 ·refine jB (show ((a.length : Int) != (b.length : Int)) = true from by rw [bne_iff_ne]; omega) ?_;refine jE ?_;refine jA ?_;refine jI ?_;exact ⟨.v (.bool false),_,AV.aA.refl _,AS.le.refl _,by rw [decide_eq_false (fun e=>dp (by rw [e]))],rfl⟩
theorem Bh (ev : Γ 0 = ew Sha.H0) (hG : Γ 1 = Sha.K.map wV) (QU l : List UInt8) (hk : QU.length≤2 ^ 38) (hl : l.length≤2 ^ 38) (s : AS) :
  ah prog Γ 185 [aj QU .any,aj l .any] s (fun r s'=>dX s (Mac.tag QU l) r s'):=by
 refine ab func185 rfl ntmps185 results185 (by simp) ?_;refine jA ?_;refine wS fun K hK=>?_;simp only [↓DN,Qa,Qb,Qc,Qd,Qe,Qf,Qg,Qh,reduceCtorEq,↓reduceIte,Na,Nb,Nc,Nk,Nf,Ng,Nh,Za,Zb,Zc,TT,List.replicate_one];have hm:=ov (Γ:=Γ) ev hG QU [l] .new hk (by simp) (by simpa using hl) s;rw [show [l].flatten = l from by simp] at hm;refine ad hm ?_;intro r s1 bu;refine jR hK ?_;clear hK K;refine jI ?_;exact ⟨_,_,AV.aA.refl _,AS.le.refl _,bu⟩
theorem _root_.Go.AM.dX.later {s s1 s2 : AS} {l : List UInt8} {r : AV} (h : dX s l r s1) (hle : s1.le s2) : dX s l r s2:=by
 refine ⟨AS.le.trans h.1 hle,?_⟩;rcases h.2 with h | ⟨t,e,h1,h2,h3⟩
 ·exact .inl h
 ·exact .inr ⟨t,e,h1,hle.own t e h2,h3⟩
def Cq (l : List UInt8) (r : AV) : Prop:=(l = []∧r = .v (.slice none 0 0))∨∃ t e,r = .sl 1 l.length (l.map ai) (.own t e)
theorem Cq.aA {l : List UInt8} {r : AV} (h : Cq l r) : r.aA (aj l .any):=by
 rcases h with ⟨rfl,rfl⟩ | ⟨t,e,rfl⟩
 ·exact AV.aJ
 ·exact AV.bJ
theorem Cq.of {s s' : AS} {l : List UInt8} {r : AV} (h : dX s l r s') : Cq l r:=by
 rcases h.2 with ⟨h1,h2⟩ | ⟨t,e,_,_,h3⟩
 ·exact .inl ⟨h1,h2⟩
 ·exact .inr ⟨t,e,h3⟩
theorem QV (c : UInt8) : eu .u8 (c.toNat : Int) 1 = (((c + 1).toNat : Nat) : Int):=by
 rw [show (1 : Int) = ((1 : Nat) : Int) from rfl,uE (k:=.u8) rfl];simp [IntKind.bits,UInt8.toNat_add]
theorem DY (ev : Γ 0 = ew Sha.H0) (hG : Γ 1 = Sha.K.map wV) (aP info : List UInt8) (hk : aP.length≤2 ^ 37) (hi : info.length≤2 ^ 37) (n : Int) (s : AS) :
  ah prog Γ 146 [aj aP .any,aj info .any,.v (.int .i64 n)] s (fun r s'=>r = .eJ [aj (Kdf.get aP info n) .any,.v (.bool (Kdf.ok n))]∧s' = s):=by
 refine ab func146 rfl ntmps146 results146 (by simp) ?_;refine jA ?_;refine wK fun K hK=>?_;by_cases h0 : n < 0
 ·have ie : Kdf.ok n = false:=(by simp [Kdf.ok]; omega);refine jB (decide_eq_true h0) ?_;refine jE ?_;refine jA ?_;refine jI ?_;exact ⟨_,_,AV.dd AV.aJ (AV.aA.refl _),AS.le.refl _,by rw [Kdf.get,ie]; rfl,rfl⟩
 by_cases h1 : 8160 < n
 ·have ie : Kdf.ok n = false:=(by simp [Kdf.ok]; omega);refine jB (Ai (decide_eq_false h0) (decide_eq_true h1)) ?_;refine jE ?_;refine jA ?_;refine jI ?_;exact ⟨_,_,AV.dd AV.aJ (AV.aA.refl _),AS.le.refl _,by rw [Kdf.get,ie]; rfl,rfl⟩
 ·have ie : Kdf.ok n = true:=(by simp [Kdf.ok]; omega);obtain ⟨m,rfl⟩ : ∃ m : Nat,n = (m : Int):=⟨n.toNat,by omega⟩;have hm : m≤8160:=(by omega);have gn : Kdf.get aP info (m : Int) = Kdf.expand aP info m:=(by rw [Kdf.get,ie]; rfl);rw [ie,gn];refine jB (Ai (decide_eq_false h0) (decide_eq_false h1)) ?_;refine jF ?_;refine ag ?_;refine hK _ _ ?_;clear hK K;refine jA ?_;refine wK fun K hK=>?_;refine jA ?_;refine al ?_;have hmr : 32 * Kdf.rounds m≤8191:=(by unfold Kdf.rounds; omega);refine aE (fun E s1=>∃ i : Nat,i≤Kdf.rounds m∧E 0 = .sl 1 aP.length (aP.map ai) .any∧E 1 = .sl 1 info.length (info.map ai) .any∧E 2 = .v (.int .i64 m)∧E 10 = .v (.int .u8 ((UInt8.ofNat (i + 1)).toNat : Int))∧Cq (Kdf.nB aP info i) (E 9)∧dX s (Kdf.row aP info i) (E 8) s1)
   (fun E _=>match E 8 with | .sl _ n _ _=>m - n | _=>m + 1) ?_ ?_
  ·refine ⟨0,Nat.zero_le _,by simp only [aF,br,Nc,↓reduceIte,List.getD_cons_succ,List.getD_cons_zero,aj],by simp only [aF,br,Nc,↓reduceIte,List.getD_cons_succ,List.getD_cons_zero,aj],by simp only [aF,br,Nc,↓reduceIte,List.getD_cons_succ,List.getD_cons_zero],rfl,?_,?_⟩
   ·simp only [aF,Nc,↓reduceIte]; exact .inl ⟨rfl,rfl⟩
   ·simp only [aF,Nc,↓reduceIte]; exact dX.nil s
  ·rintro E2 s2 ⟨i,hir,g0,g1,g2,g10,N2,bu⟩ -
   refine wK fun K2 aW=>?_;have uS:=Kdf.dk aP info i;have UK:=Kdf.due m i;have ZZ : m - 32 * i≤(match E2 8 with | .sl _ n _ _=>m - n | _=>m + 1):=by
    rcases bu.2 with ⟨Gq,e8⟩ | ⟨t,e,_,_,e8⟩
    ·rw [e8];simp only;omega
    ·rw [e8];simp only [uS];exact Nat.le_refl _
   generalize Su : E2 8 = r8 at bu;generalize hr9 : E2 9 = r9 at N2;by_cases bc : i < Kdf.rounds m
   ·have bS : 32 * i < m:=UK.2 bc;have wc : ∀ E3 : Env,E3 0 = .sl 1 aP.length (aP.map ai) .any→E3 1 = .sl 1 info.length (info.map ai) .any→E3 2 = .v (.int .i64 m)→E3 10 = .v (.int .u8 ((UInt8.ofNat (i + 1)).toNat : Int))→E3 8 = r8→E3 9 = r9→K2 E3 s2:=by
     intro E3 f0 f1 f2 f10 f8 f9;refine aW _ _ ?_;clear aW K2;refine wK fun K3 bC=>?_;refine al ?_;have HX:=Kdf.uc aP info i;have Qq : Kdf.nB aP info (i + 1) = Mac.tag aP (Kdf.nB aP info i ++ info ++ [UInt8.ofNat (i + 1)]):=rfl;have oc : Kdf.row aP info (i + 1) = Kdf.row aP info i ++ Kdf.nB aP info (i + 1):=rfl;have xee : (Kdf.nB aP info i).length≤32:=by
      cases i with
      | zero=>simp [Kdf.nB]
      | succ j=>rw [Kdf.uc]; exact Nat.le_refl _
     have xaQ : ∀ x : AV,List.replicate 3 x = [x,x,x]:=fun _=>rfl;have hw9:=N2.aA;have Gp:=QV (UInt8.ofNat (i + 1));have Ao : UInt8.ofNat (i + 1) + 1 = UInt8.ofNat (i + 1 + 1):=by
      rw [← UInt8.toNat_inj,UInt8.toNat_add,UInt8.toNat_ofNat',UInt8.toNat_ofNat'];simp
     rw [Ao] at Gp;have uv:=ov (Γ:=Γ) ev hG aP [Kdf.nB aP info i,info,[UInt8.ofNat (i + 1)]] .new (by omega) (by simp) (by simp only [List.flatten_cons,List.flatten_nil,List.append_nil,List.length_append,List.length_cons,List.length_nil]; omega) s2;rw [show [Kdf.nB aP info i,info,[UInt8.ofNat (i + 1)]].flatten = Kdf.nB aP info i ++ info ++ [UInt8.ofNat (i + 1)] from by simp,← Qq] at uv;have N3 : ∀ r9' : AV,r9'.aA (aj (Kdf.nB aP info i) .any)→ah prog Γ 180 [.sl 1 aP.length (aP.map ai) .any,.sl 1 3 [r9',.sl 1 info.length (info.map ai) .any,.sl 1 1 [.v (.int .u8 ((UInt8.ofNat (i + 1)).toNat : Int))] .new] .new] s2 (fun r s'=>dX s2 (Kdf.nB aP info (i + 1)) r s'):=fun r9' hw =>
      ah.iU (eL.aA.cons (AV.aA.refl _) (eL.aA.cons (AV.gF (eL.aA.cons hw (eL.aA.cons (AV.aA.refl _) (eL.aA.cons (AV.bJ (sp:=.new)) eL.aA.nil)))) eL.aA.nil)) uv
     have N3:=N3 r9 hw9;rcases N2 with ⟨_,rfl⟩ | ⟨t9,e9,rfl⟩;all_goals
      refine wS fun K hK=>?_;simp only [↓DN,Qa,Qb,Qc,Qd,Qe,Qf,Qg,Qh,reduceCtorEq,↓reduceIte,Na,Nb,Nc,Nk,Nf,Ng,Nh,Za,Zb,Zc,TT,f0,f1,f10,f9,List.replicate_one,xaQ];refine ad N3 ?_;intro r s3 hr;obtain ⟨t3,e3,rfl⟩:=ct hr (by rw [← List.length_pos_iff,HX]; decide);have xaR:=bu.later hr.1;have JK:=Cq.of hr;rw [HX] at JK;refine jR hK ?_;clear hK K;refine jU (Ai @f8 @HX) fun K hK=>?_;refine dm (ds:=Kdf.nB aP info (i + 1)) xaR HX.symm rfl T.c5 T.b5 (by rw [uS,HX]; omega) ?_;intro r2 s4 h4;rw [← oc] at h4;obtain ⟨t4,e4,rfl⟩:=ct h4 (by rw [← List.length_pos_iff,Kdf.dk]; omega);refine hK _ _ ?_;clear hK;simp only [az,aw,if_true,if_false];refine bC _ _ ?_;clear bC K3;refine jD (Ai @f10 @Gp) ?_;refine ⟨⟨i + 1,by omega,f0,f1,f2,rfl,by simpa only [aF,Nc,↓reduceIte] using JK,by simpa only [aF,Nc,↓reduceIte] using h4⟩,?_⟩;refine Nat.lt_of_lt_of_le ?_ ZZ;simp only [aF,Nc,↓reduceIte,Kdf.dk];omega
    rcases bu.2 with ⟨Gq,rfl⟩ | ⟨t,e,_,_,rfl⟩
    ·have ic : 32 * i = 0:=(by rw [← uS,Gq]; rfl);refine jB (Ai @Su (Ai @g2 (decide_eq_true (show ((0 : Nat) : Int) < (m : Int) by omega)))) ?_;refine jE ?_;refine ag ?_;simp only [az];refine wc _ ?_ ?_ ?_ ?_ ?_ ?_
     ·simp only [aF,g0,Nc,↓reduceIte]
     ·simp only [aF,g1,Nc,↓reduceIte]
     ·simp only [aF,g2,Nc,↓reduceIte]
     ·simp only [aF,g10,Nc,↓reduceIte]
     ·simp only [aF,Su,Nc,↓reduceIte]
     ·simp only [aF,hr9,Nc,↓reduceIte]
    ·refine jB (Ai @Su (Ai @g2 (Ai @uS (decide_eq_true (show ((32 * i : Nat) : Int) < (m : Int) by omega))))) ?_;refine jE ?_;refine ag ?_;simp only [az];refine wc _ ?_ ?_ ?_ ?_ ?_ ?_
     ·simp only [aF,g0,Nc,↓reduceIte]
     ·simp only [aF,g1,Nc,↓reduceIte]
     ·simp only [aF,g2,Nc,↓reduceIte]
     ·simp only [aF,g10,Nc,↓reduceIte]
     ·simp only [aF,Su,uS,Nc,↓reduceIte]
     ·simp only [aF,hr9,Nc,↓reduceIte]
   ·obtain rfl : i = Kdf.rounds m:=(by omega);have hle:=Kdf.vx m;have hs:=bu.1;have uv : (0 : Int)≤(m : Int):=(by omega);rcases bu.2 with ⟨Gq,rfl⟩ | ⟨t,e,_,_,rfl⟩
    ·have ic : 32 * Kdf.rounds m = 0:=(by rw [← uS,Gq]; rfl);obtain rfl : m = 0:=(by omega);refine jB (Ai @Su (Ai @g2 (decide_eq_false (show ¬ ((0 : Nat) : Int) < ((0 : Nat) : Int) by decide)))) ?_;refine jF ?_;refine aC ?_;simp only [az,aw,if_true];clear aW K2;refine hK _ _ ?_;clear hK K;refine jB (Ai @Su (Ai @g2 (show ((0 : Nat) : Int) = 0 from rfl))) ?_;refine jI ?_;refine ⟨_,s,AV.dd (AV.aJ (sz:=1)) (AV.aA.refl _),hs,?_,rfl⟩;have he : Kdf.expand aP info 0 = []:=List.eq_nil_of_length_eq_zero (Kdf.gZ aP info 0);rw [ie,gn,he];rfl
    ·refine jB (Ai @Su (Ai @g2 (Ai @uS (decide_eq_false (show ¬ ((32 * Kdf.rounds m : Nat) : Int) < (m : Int) by omega))))) ?_;refine jF ?_;refine aC ?_;simp only [az,aw,if_true];clear aW K2;refine hK _ _ ?_;clear hK K;refine jB (Ai @Su (Ai @g2 (Ai @uS (Ai @uv (show (m : Int)≤((32 * Kdf.rounds m : Nat) : Int) by omega))))) ?_;refine jI ?_;refine ⟨_,s,AV.dd AV.bJ (AV.aA.refl _),hs,?_,rfl⟩;rw [ie,gn,Kdf.gZ,Nat.sub_zero];rfl
theorem KT (i : Nat) : cB .u8 (i : Int) = ((UInt8.ofNat i).toNat : Int):=by
 rw [gL (k:=.u8) rfl,UInt8.toNat_ofNat'];simp only [IntKind.bits]
theorem QW (c : UInt8) : isByte (.v (.int .u8 (c.toNat : Int))) = true:=by
 have:=eB [c];simpa [ai] using this
theorem QX (c : UInt8) : me [.v (.int .u8 (c.toNat : Int))] = ⟨[c].toArray⟩:=fw [c]
theorem xj (aP info : List UInt8) (hk : aP.length≤2 ^ 37) (hi : info.length≤2 ^ 37) (m : Nat) (hm : m≤8160) (s : AS) :
  ah prog Γ 117 [.v (.string ⟨aP.toArray⟩),.v (.string ⟨info.toArray⟩),.v (.int .i64 m)] s (fun r s'=>r = .v (.string ⟨(Kdf.expand aP info m).toArray⟩)∧s' = s):=by
 refine ab func117 rfl ntmps117 results117 (by simp) ?_;have hmr : 32 * Kdf.rounds m≤8191:=(by unfold Kdf.rounds; omega);refine jA ?_;refine jA ?_;refine wK fun K hK=>?_;refine jA ?_;refine al ?_;refine aE (fun E s1=>∃ i : Nat,i≤Kdf.rounds m∧E 0 = .v (.string ⟨aP.toArray⟩)∧E 1 = .v (.string ⟨info.toArray⟩)∧E 2 = .v (.int .i64 m)∧E 7 = .v (.string ⟨(Kdf.nB aP info i).toArray⟩)∧E 8 = .v (.string ⟨(Kdf.row aP info i).toArray⟩)∧E 9 = .v (.int .i64 ((i + 1 : Nat) : Int))∧s1 = s)
  (fun E _=>match E 9 with | .v (.int _ x)=>300 - x.toNat | _=>0) ?_ ?_
 ·exact ⟨0,Nat.zero_le _,by simp only [aF,br,Nc,↓reduceIte,List.getD_cons_succ,List.getD_cons_zero],by simp only [aF,br,Nc,↓reduceIte,List.getD_cons_succ,List.getD_cons_zero],by simp only [aF,br,Nc,↓reduceIte,List.getD_cons_succ,List.getD_cons_zero],rfl,rfl,rfl,rfl⟩
 ·rintro E2 s2 ⟨i,hir,g0,g1,g2,g7,g8,g9,rfl⟩ -
  refine wK fun K2 aW=>?_;have uS:=Kdf.dk aP info i;have UK:=Kdf.due m i;by_cases bc : i < Kdf.rounds m
  ·have bS : 32 * i < m:=UK.2 bc;have HX:=Kdf.uc aP info i;have Qq : Kdf.nB aP info (i + 1) = Mac.tag aP (Kdf.nB aP info i ++ info ++ [UInt8.ofNat (i + 1)]):=rfl;have oc : Kdf.row aP info (i + 1) = Kdf.row aP info i ++ Kdf.nB aP info (i + 1):=rfl;have xee : (Kdf.nB aP info i).length≤32:=by
    cases i with
    | zero=>simp [Kdf.nB]
    | succ j=>rw [Kdf.uc]; exact Nat.le_refl _
   refine jB (Ai @g2 (Ai @g8 (Ai @cp (Ai @uS (decide_eq_true (show ((32 * i : Nat) : Int) < (m : Int) by omega)))))) ?_;refine jE ?_;refine ag ?_;refine aW _ _ ?_;clear aW K2;refine wK fun K3 bC=>?_;refine al ?_;refine wS fun K hK=>?_;simp only [↓DN,Qa,Qb,Qc,Qd,Qe,Qf,Qg,Qh,reduceCtorEq,↓reduceIte,Na,Nb,Nc,Nk,Nf,Ng,Nh,Za,Zb,Zc,TT,g0,g1,g7,g9,KT,List.replicate_one,QW,QX,dO (show (Kdf.nB aP info i).length + info.length < 2 ^ 62 by omega),dO (show (Kdf.nB aP info i).length + info.length + 1 < 2 ^ 62 by omega)];refine ad (DW aP (Kdf.nB aP info i ++ (info ++ [UInt8.ofNat (i + 1)])) (by omega) (by simp only [List.length_append,List.length_cons,List.length_nil]; omega) s2) ?_;rintro r s3 ⟨rfl,rfl⟩;rw [← List.append_assoc,← Qq];refine jR hK ?_;clear hK K;refine jU (Ai @g8 (dO (show (Kdf.row aP info i).length + (Kdf.nB aP info (i + 1)).length < 2 ^ 62 by omega))) fun K hK=>?_;rw [← oc];refine hK _ _ ?_;clear hK;simp only [az,aw,if_true,if_false];refine bC _ _ ?_;clear bC K3;refine jD (Ai @g9 (cS (i + 1) (by omega))) ?_;refine ⟨⟨i + 1,by omega,g0,g1,g2,rfl,rfl,rfl,rfl⟩,?_⟩;simp only [g9,aF,↓reduceIte];omega
  ·obtain rfl : i = Kdf.rounds m:=(by omega);have hle:=Kdf.vx m;have uv : (0 : Int)≤(m : Int):=(by omega);refine jB (Ai @g2 (Ai @g8 (Ai @cp (Ai @uS (decide_eq_false (show ¬ ((32 * Kdf.rounds m : Nat) : Int) < (m : Int) by omega)))))) ?_;refine jF ?_;refine aC ?_;simp only [az,aw,if_true];clear aW K2;refine hK _ _ ?_;clear hK K;refine jB (Ai @g2 (Ai @g8 (Ai @cp (Ai @uS (Ai @uv (show (m : Int)≤((32 * Kdf.rounds m : Nat) : Int) by omega)))))) ?_;exact jJ
theorem km (ev : Γ 0 = ew Sha.H0) (hG : Γ 1 = Sha.K.map wV) (aP l c : List UInt8) (n : Int) (hs : aP.length≤2 ^ 36) (hl : l.length≤2 ^ 36) (hc : c.length≤2 ^ 36) (hn : -9223372036854775808≤n∧n≤9223372036854775807) (s : AS) :
  ah prog Γ 102 [aj aP .any,.v (.string ⟨l.toArray⟩),aj c .any,.v (.int .i64 n)] s (fun r s'=>r = .eJ [aj (Kdf.label aP l c n) .any,.v (.bool (Kdf.fits l c n))]∧s' = s):=by
 refine ab func102 rfl ntmps102 results102 (by simp) ?_;have uq : (Kdf.Ec ++ l).length = 4 + l.length:=(by simp [Kdf.Ec]; omega);refine jA ?_;refine jQ fun K hK=>?_;refine ad (nr s) ?_;rintro r s1 ⟨p,rfl,h1⟩;refine jR hK ?_;clear hK K;refine jQ fun K hK=>?_;refine ad (Dt s s1 p _ n hn (by simp) h1) ?_;rintro r s2 ⟨rfl,h2⟩;have Iu:=eS 2 n ([],false);generalize xeg : bf 2 n ([],false) = VU at *
 simp only [List.length_nil] at Iu;refine jR hK ?_;clear hK K;refine jS (dO (show 4 + l.length < 2 ^ 62 by omega)) fun K hK=>?_;refine ad (eH s s2 p VU _ (Kdf.Ec ++ l) (yn.of (by rw [uq]; omega) rfl) (by rw [uq]; omega) h2) ?_;rintro r s3 ⟨rfl,h3⟩;have JK:=Kdf.nf 1 (Kdf.Ec ++ l) VU;generalize NG : dj 1 (Kdf.Ec ++ l) VU = QM at *
 rw [uq] at JK;refine jR hK ?_;clear hK K;refine jQ fun K hK=>?_;refine ad (rp s s3 p QM _ c (yn.any c) (by omega) h3) ?_;rintro r s4 ⟨rfl,h4⟩;have hl4:=Kdf.nf 2 c QM;have Fy : dj 2 c QM = Kdf.VG l c n:=(by rw [Kdf.VG,xeg,NG]);rw [Fy] at h4 hl4;refine jR hK ?_;clear hK K;refine jQ fun K hK=>?_;refine ad (fO s s4 p _ (by omega) h4) ?_;rintro r s5 ⟨rfl,rfl⟩;by_cases lM : 0≤n∧n≤65535∧l.length≤251∧c.length≤65535
 ·obtain ⟨q0,q1,q2,q3⟩:=lM;have hp:=Kdf.Nv l c n q0 q1 q2 q3;have hf : Kdf.fits l c n = Kdf.ok n:=by
   simp only [Kdf.fits,Kdf.ok,decide_eq_true q2,decide_eq_true q3,Bool.true_and]
  have zY : Kdf.label aP l c n = Kdf.get aP (Kdf.text l c n.toNat) n:=by
   rw [Kdf.label,Kdf.get,hf]
  have lT : (Kdf.text l c n.toNat).length≤2 ^ 37:=by
   rw [hp] at hl4;simp only at hl4;omega
  rw [hp];refine jV @Bool.false_eq_true hK ?_;clear hK K;refine wK fun K hK=>?_;refine jA ?_;refine jF ?_;refine ag ?_;refine hK _ _ ?_;clear hK K;refine jK (DY ev hG aP (Kdf.text l c n.toNat) (by omega) lT n s5) ?_;rintro s6 rfl;refine jI ?_;rw [zY,hf];exact ⟨_,s,AV.aA.refl _,h4.le,rfl,rfl⟩
 ·have hp:=Kdf.QE l c n lM;have hf : Kdf.fits l c n = false:=by
   cases hf : Kdf.fits l c n with
   | false=>rfl
   | true =>
    simp only [Kdf.fits,Bool.and_eq_true,decide_eq_true_eq] at hf;exact absurd ⟨hf.1.2,by omega,hf.1.1.1,hf.1.1.2⟩ lM
  have zY : Kdf.label aP l c n = []:=(by rw [Kdf.label,hf]; rfl);rw [hp,if_pos rfl];refine jR hK ?_;clear hK K;refine wK fun K hK=>?_;refine jA ?_;refine jE ?_;refine jA ?_;refine jI ?_;rw [zY,hf];exact ⟨_,s,AV.dd AV.aJ (AV.aA.refl _),h4.le,rfl,rfl⟩
theorem zZ (aP l c : List UInt8) (n : Int) (hs : aP.length≤2 ^ 36) (hf : Kdf.fits l c n = true) (s : AS) :
  ah prog Γ 57 [.v (.string ⟨aP.toArray⟩),.v (.string ⟨l.toArray⟩),.v (.string ⟨c.toArray⟩),.v (.int .i64 n)] s (fun r s'=>r = .v (.string ⟨(Kdf.label aP l c n).toArray⟩)∧s' = s):=by
 refine ab func57 rfl ntmps57 results57 (by simp) ?_;have zY : Kdf.label aP l c n = Kdf.expand aP (Kdf.text l c n.toNat) n.toNat:=(by rw [Kdf.label,hf]; rfl);simp only [Kdf.fits,Bool.and_eq_true,decide_eq_true_eq] at hf;obtain ⟨⟨⟨q1,q2⟩,q3⟩,q4⟩:=hf;obtain ⟨m,rfl⟩ : ∃ m : Nat,n = (m : Int):=⟨n.toNat,by omega⟩;rw [zY,Int.toNat_natCast];have hu : cB .u64 (m : Int) = (m : Int):=tf (by omega);have uq : (Kdf.Ec ++ l).length = 4 + l.length:=(by simp [Kdf.Ec]; omega);have HX : ∀ k n,(be k n).length = k:=b8;refine jA ?_;refine jS @hu fun K hK=>?_;refine ad (dz m 2 (by omega) (by omega) s) ?_;rintro r s1 ⟨rfl,rfl⟩;refine jN (dO (show 4 + l.length < 2 ^ 62 by omega)) ?_;refine ad (jx (Kdf.Ec ++ l) 1 (by rw [uq]; omega) (by omega) s1) ?_;rintro r s2 ⟨rfl,rfl⟩;have hm4 : Kdf.Ec.length = 4:=rfl;refine jN (Ai @hm4 (Ai @b8 (dO (show 2 + (1 + (4 + l.length)) < 2 ^ 62 by omega)))) ?_;refine ad (jx c 2 (by omega) (by omega) s2) ?_;rintro r s3 ⟨rfl,rfl⟩;refine jN (Ai @hm4 (Ai @b8 (dO (show 2 + (1 + (4 + l.length)) + (2 + c.length) < 2 ^ 62 by omega)))) ?_;have OW : be 2 m ++ (be 1 (4 + l.length) ++ (Kdf.Ec ++ (l ++ (be 2 c.length ++ c)))) = Kdf.text l c m:=by
  simp only [Kdf.text,uq,List.append_assoc]
 have lT : (Kdf.text l c m).length≤2 ^ 37:=by
  rw [← OW];simp only [List.length_append,b8,hm4];omega
 rw [OW];refine ad (xj aP (Kdf.text l c m) (by omega) lT m (by omega) s3) ?_;rintro r s4 ⟨rfl,rfl⟩;refine jR hK ?_;clear hK K;exact jJ
theorem UL (n : Nat) : (if (251 : Int) < (n : Int) then (251 : Int) else (n : Int)) = ((min n 251 : Nat) : Int):=by
 split <;> omega
theorem N4 (l : List UInt8) : l.take (min l.length 251) = l.take 251:=by
 rcases Nat.le_total l.length 251 with h | h
 ·rw [Nat.min_eq_left h,List.take_length,List.take_of_length_le h]
 ·rw [Nat.min_eq_right h]
theorem FY (l : List UInt8) : Kdf.fits (l.take 251) [] 32 = true:=by
 simp only [Kdf.fits,Bool.and_eq_true,decide_eq_true_eq,List.length_take,List.length_nil];refine ⟨⟨⟨by omega,by decide⟩,by decide⟩,by decide⟩
theorem kO (ev : Γ 0 = ew Sha.H0) (hG : Γ 1 = Sha.K.map wV) (aP l : List UInt8) (hs : aP.length≤2 ^ 36) (hl : l.length≤2 ^ 36) (s : AS) :
  ah prog Γ 42 [aj aP .any,.v (.string ⟨l.toArray⟩)] s (fun r s'=>r = aj (Kdf.derive aP l) .any∧s' = s):=by
 refine ab func42 rfl ntmps42 results42 (by simp) ?_;have hm:=UL l.length;have uv : (0 : Int)≤((min l.length 251 : Nat) : Int):=(by omega);have uq : ((min l.length 251 : Nat) : Int)≤(l.length : Int):=(by omega);refine jA ?_;refine jS (Ai @cp (Ai @hm (Ai @uv (Ai @uq @N4)))) fun K hK=>?_;have zY:=km (Γ:=Γ) ev hG aP (l.take 251) [] 32 hs (by rw [List.length_take]; omega) (by simp) (by decide) s;refine ad (ah.iU (eL.aA.cons (AV.aA.refl _) (eL.aA.cons (AV.aA.refl _) (eL.aA.cons AV.aJ (eL.aA.cons (AV.aA.refl _) eL.aA.nil)))) zY) ?_;rintro r s1 ⟨rfl,rfl⟩;refine jR hK ?_;clear hK K;refine jA ?_;exact jJ
abbrev bV (x : UInt8) : AV:=.v (.int .u8 (x.toNat : Int))
theorem Jt (x : UInt8) : x.toNat < 2 ^ IntKind.u8.bits:=by simpa [IntKind.bits] using x.toNat_lt
theorem oO (a b : UInt8) : Eg .u8 (a.toNat : Int) (b.toNat : Int) = (((a ^^^ b).toNat : Nat) : Int):=by
 rw [GS (k:=.u8) rfl a.toNat b.toNat (Jt a) (Jt b),UInt8.toNat_xor]
theorem N5 (a b : UInt8) : lX .u8 (a.toNat : Int) (b.toNat : Int) = (((a &&& b).toNat : Nat) : Int):=by
 rw [rM (k:=.u8) rfl a.toNat b.toNat (Jt a) (Jt b),UInt8.toNat_and]
theorem QY (b : UInt8) : lX .u8 27 (b.toNat : Int) = ((((27 : UInt8) &&& b).toNat : Nat) : Int):=N5 27 b
theorem UM (b : UInt8) : lX .u8 (b.toNat : Int) 1 = (((b &&& (1 : UInt8)).toNat : Nat) : Int):=N5 b 1
theorem QZ (b : UInt8) : Eg .u8 99 (b.toNat : Int) = ((((99 : UInt8) ^^^ b).toNat : Nat) : Int):=oO 99 b
theorem Sv (a : UInt8) : Eh .u8 (a.toNat : Int) = ((((0 : UInt8) - a).toNat : Nat) : Int):=by
 have:=a.toNat_lt;rw [Eh,kv rfl,UInt8.toNat_sub];simp only [IntKind.bits];rw [show (0 : UInt8).toNat = 0 from rfl];omega
theorem UN (a : UInt8) : ko .u8 (a.toNat : Int) 1 = (((a <<< (1 : UInt8)).toNat : Nat) : Int):=by
 have:=rN (k:=.u8) rfl a.toNat 1;rw [show (1 : Int) = ((1 : Nat) : Int) from rfl,this,UInt8.toNat_shiftLeft];simp [IntKind.bits,Nat.shiftLeft_eq]
theorem UO (a : UInt8) : fa .u8 (a.toNat : Int) 1 = (((a >>> (1 : UInt8)).toNat : Nat) : Int):=by
 have:=iu (k:=.u8) a.toNat 1;rw [show (1 : Int) = ((1 : Nat) : Int) from rfl,this,UInt8.toNat_shiftRight];simp [IntKind.bits,Nat.shiftRight_eq_div_pow]
theorem UQ (a : UInt8) : fa .u8 (a.toNat : Int) 7 = (((a >>> (7 : UInt8)).toNat : Nat) : Int):=by
 have:=iu (k:=.u8) a.toNat 7;rw [show (7 : Int) = ((7 : Nat) : Int) from rfl,this,UInt8.toNat_shiftRight];simp [IntKind.bits,Nat.shiftRight_eq_div_pow]
theorem Cr (b : UInt8) : (b >>> (1 : UInt8)).toNat = b.toNat / 2:=by
 rw [UInt8.toNat_shiftRight];simp [Nat.shiftRight_eq_div_pow]
theorem kV (a : UInt8) (s : AS) : ah prog Γ 252 [bV a] s (fun r s'=>r = bV (Aes.O0 a)∧s' = s):=by
 refine ab func252 rfl ntmps252 results252 (by simp) ?_;refine jA ?_;refine jB (Ai @UN (Ai @UQ (Ai @Sv (Ai @QY @oO)))) ?_;exact jJ
theorem uh (x y : UInt8) (s : AS) : ah prog Γ 257 [bV x,bV y] s (fun r s'=>r = bV (Aes.gm 8 0 x y)∧s' = s):=by
 refine ab func257 rfl ntmps257 results257 (by simp) ?_;refine jA ?_;refine jA ?_;refine wK fun K hK=>?_;refine al ?_;refine aE (fun E s1=>∃ (f : Nat) (o a b : UInt8),E 5 = bV o∧E 0 = bV a∧E 1 = bV b∧b.toNat < 2 ^ f∧Aes.gm f o a b = Aes.gm 8 0 x y∧s1 = s)
  (fun E _=>match E 1 with | .v (.int _ i)=>i.toNat | _=>0) ?_ ?_
 ·exact ⟨8,0,x,y,by simp [aF],by simp [aF,br],by simp [aF,br],y.toNat_lt,rfl,rfl⟩
 ·rintro E1 s1 ⟨f,o,a,b,h5,h0,h1,hb,hinv,rfl⟩ -
  refine wK fun K2 aW=>?_;by_cases ZV : b.toNat = 0
  ·refine jB (Ai @h1 (decide_eq_false (show ¬ (0 : Int) < (b.toNat : Int) by omega))) ?_;refine jF ?_;refine aC ?_;simp only [az,aw,if_true];refine hK _ _ ?_;clear hK aW K K2;refine jB @h5 ?_;refine jI ?_;refine jW ⟨?_,rfl⟩;have e : b = 0:=UInt8.toNat_inj.1 (by rw [ZV]; rfl);rw [← hinv,e,Aes.Jh]
  ·refine jB (Ai @h1 (decide_eq_true (show (0 : Int) < (b.toNat : Int) by omega))) ?_;refine jE ?_;refine ag ?_;refine aW _ _ ?_;clear aW K2;refine wK fun K3 bC=>?_;refine al ?_;refine jB (Ai @h5 (Ai @h0 (Ai @h1 (Ai @UM (Ai @Sv (Ai @N5 @oO)))))) ?_;refine jU @h0 fun K hK=>?_;refine ad (kV a _) ?_;rintro r s' ⟨rfl,rfl⟩;refine jR hK ?_;clear hK K;simp only [aw,az,if_true,if_false];refine bC _ _ ?_;clear bC K3;obtain ⟨g,rfl⟩ : ∃ g,f = g + 1:=⟨f - 1,by
    cases f with
    | zero=>simp at hb; omega
    | succ f=>simp⟩
   refine jD (Ai @h1 @UO) ?_;refine ⟨⟨g,o ^^^ (a &&& ((0 : UInt8) - (b &&& 1))),Aes.O0 a,b >>> 1,rfl,rfl,rfl,?_,hinv,rfl⟩,?_⟩
   ·rw [Cr];rw [Nat.pow_succ] at hb;omega
   ·simp only [h1,aF,↓reduceIte,Cr];omega
theorem N6 : ∀ n : Nat,n < 256→lX .i64 (n : Int) 1 = ((n % 2 : Nat) : Int):=by decide +kernel
theorem UR (n : Nat) : fa .i64 (n : Int) 1 = ((n / 2 : Nat) : Int):=by
 have:=iu (k:=.i64) n 1;rw [show (1 : Int) = ((1 : Nat) : Int) from rfl,this];simp [IntKind.bits]
theorem Q0 : (((1 : Nat) : Int) == 1) = true:=rfl
theorem KU : (((0 : Nat) : Int) == 1) = false:=rfl
theorem Bi (x : UInt8) (s : AS) : ah prog Γ 255 [bV x] s (fun r s'=>r = bV (Aes.inv x)∧s' = s):=by
 refine ab func255 rfl ntmps255 results255 (by simp) ?_;refine jA ?_;refine jA ?_;refine wK fun K hK=>?_;refine jA ?_;refine al ?_;refine aE (fun E s1=>∃ (f : Nat) (o a : UInt8) (n : Nat),E 3 = bV o∧E 0 = bV a∧E 4 = .v (.int .i64 n)∧n < 2 ^ f∧n < 256∧Aes.pw f o a n = Aes.pw 8 1 x 254∧s1 = s)
  (fun E _=>match E 4 with | .v (.int _ i)=>i.toNat | _=>0) ?_ ?_
 ·exact ⟨8,1,x,254,rfl,by simp only [aF,br,Nc,↓reduceIte]; rfl,rfl,by decide,by decide,rfl,rfl⟩
 ·rintro E1 s1 ⟨f,o,a,n,h3,h0,h4,hn,ZN,hinv,rfl⟩ -
  refine wK fun K2 aW=>?_;by_cases hn0 : n = 0
  ·refine jB (Ai @h4 (decide_eq_false (show ¬ (0 : Int) < (n : Int) by omega))) ?_;refine jF ?_;refine aC ?_;simp only [az,aw,if_true];refine hK _ _ ?_;clear hK aW K K2;refine jB @h3 ?_;refine jI ?_;refine jW ⟨?_,rfl⟩;rw [Aes.inv,← hinv,hn0,Aes.Ji]
  ·refine jB (Ai @h4 (decide_eq_true (show (0 : Int) < (n : Int) by omega))) ?_;refine jE ?_;refine ag ?_;refine aW _ _ ?_;clear aW K2;refine wK fun K3 bC=>?_;refine al ?_;refine wK fun K4 ei=>?_;obtain ⟨g,rfl⟩ : ∃ g,f = g + 1:=⟨f - 1,by
    cases f with
    | zero=>simp at hn; omega
    | succ f=>simp⟩
   have eN : Aes.pw (g + 1) o a n = Aes.pw g (if n % 2 = 1 then Aes.gm 8 0 o a else o) (Aes.gm 8 0 a a) (n / 2):=rfl;have wc : ∀ (E2 : Env) (o2 : UInt8),E2 3 = bV o2→E2 0 = bV a→E2 4 = .v (.int .i64 n)→Aes.pw g o2 (Aes.gm 8 0 a a) (n / 2) = Aes.pw 8 1 x 254→K4 E2 s1:=by
    intro E2 o2 e3 e0 e4 z7;refine ei _ _ ?_;clear ei K4;refine jU @e0 fun K hK=>?_;refine ad (uh a a s1) ?_;rintro r s' ⟨rfl,rfl⟩;refine jR hK ?_;clear hK K;simp only [aw,az,if_true,if_false];refine bC _ _ ?_;clear bC K3;refine jD (Ai @e4 @UR) ?_;refine ⟨⟨g,o2,Aes.gm 8 0 a a,n / 2,e3,rfl,rfl,by rw [Nat.pow_succ] at hn; omega,by omega,z7,rfl⟩,?_⟩;simp only [h4,aF,↓reduceIte];omega
   by_cases DZ : n % 2 = 1
   ·refine jB (Ai @h4 (Ai (N6 n ZN) (Ai @DZ @Q0))) ?_;refine jE ?_;refine jU (Ai @h3 @h0) fun K hK=>?_;refine ad (uh o a s1) ?_;rintro r s' ⟨rfl,rfl⟩;refine jR hK ?_;clear hK K;refine wc _ (Aes.gm 8 0 o a) rfl h0 h4 ?_;rw [← hinv,eN,if_pos DZ]
   ·have z8 : n % 2 = 0:=(by omega);refine jB (Ai @h4 (Ai (N6 n ZN) (Ai @z8 @KU))) ?_;refine jF ?_;refine ag ?_;refine wc _ o h3 h0 h4 ?_;rw [← hinv,eN,if_neg DZ]
theorem Ig : ∀ k : Nat,k < 8→lX .u64 (cB .u64 (k : Int)) 7 = ((k : Nat) : Int):=by decide +kernel
theorem N7 : ∀ k : Nat,k < 8→eC .u64 8 ((k : Nat) : Int) = ((8 - k : Nat) : Int):=by decide +kernel
theorem N8 (x : UInt8) (k : Nat) (h0 : 0 < k) (h : k < 8) : Gy .u8 (ko .u8 (x.toNat : Int) ((k : Nat) : Int)) (fa .u8 (x.toNat : Int) ((8 - k : Nat) : Int)) = (((Aes.rot x k).toNat : Nat) : Int):=by
 have hx:=x.toNat_lt;have hd : x.toNat / 2 ^ (8 - k) < 256:=Nat.lt_of_le_of_lt (Nat.div_le_self _ _) hx;rw [rN rfl,iu];simp only [IntKind.bits];rw [Nat.min_eq_left (by omega),Nat.min_eq_left (by omega)];have e:=Bw (k:=.u8) rfl (x.toNat * 2 ^ k % 2 ^ 8) (x.toNat / 2 ^ (8 - k)) (Nat.mod_lt _ (by decide)) hd;rw [e];rw [Aes.rot,UInt8.toNat_or,UInt8.toNat_ofNat',UInt8.toNat_ofNat',Nat.mod_eq_of_lt hd]
theorem FZ (x : UInt8) (k : Nat) (h0 : 0 < k) (h : k < 8) (s : AS) :
  ah prog Γ 256 [bV x,.v (.int .i64 (k : Int))] s (fun r s'=>r = bV (Aes.rot x k)∧s' = s):=by
 refine ab func256 rfl ntmps256 results256 (by simp) ?_;refine jA ?_;refine jB (Ig k h) ?_;refine jB (Ai @mC (Ai (N7 k h) (N8 x k h0 h))) ?_;refine jI ?_;exact ⟨_,s,AV.aA.refl _,AS.le.refl s,rfl,rfl⟩
theorem D0 (x : UInt8) (s : AS) : ah prog Γ 251 [bV x] s (fun r s'=>r = bV (Aes.box x)∧s' = s):=by
 refine ab func251 rfl ntmps251 results251 (by simp) ?_;have xei : Aes.box x = Aes.H5 (Aes.inv x) 4:=rfl;have hi:=fun s=>Bi (Γ:=Γ) x s;rw [xei];generalize Aes.inv x = y at *
 refine jA ?_;refine jK (hi _) ?_;rintro s1 rfl;refine jB @QZ ?_;refine wK fun K hK=>?_;refine jA ?_;refine al ?_;refine aE (fun E s2=>∃ i : Nat,i≤4∧E 3 = bV y∧E 4 = bV (Aes.H5 y i)∧E 5 = .v (.int .i64 ((i + 1 : Nat) : Int))∧s2 = s1)
  (fun E _=>match E 5 with | .v (.int _ i)=>5 - i.toNat | _=>0) ?_ ?_
 ·exact ⟨0,by omega,rfl,rfl,rfl,rfl⟩
 ·rintro E1 s2 ⟨i,bc,h3,h4,h5,rfl⟩ -
  refine wK fun K2 aW=>?_;by_cases hn : i < 4
  ·refine jB (Ai @h5 (decide_eq_true (show ((i + 1 : Nat) : Int) < 5 by omega))) ?_;refine jE ?_;refine ag ?_;refine aW _ _ ?_;clear aW K2;refine wK fun K3 bC=>?_;refine al ?_;have dU : Aes.H5 y (i + 1) = Aes.H5 y i ^^^ Aes.rot y (i + 1):=rfl;generalize Aes.H5 y i = o at *
   refine jU (Ai @h3 (Ai @h4 @h5)) fun K hK=>?_;refine ad (FZ y (i + 1) (by omega) (by omega) _) ?_;rintro r s3 ⟨rfl,rfl⟩;refine jV (Ai @h3 (Ai @h4 (Ai @h5 @oO))) hK ?_;clear hK K;simp only [aw,az,if_true,if_false];refine bC _ _ ?_;clear bC K3;refine jD (Ai @h5 (cS (i + 1) (by omega))) ?_;refine ⟨⟨i + 1,by omega,h3,by simp only [aF,Nc,↓reduceIte,dU],rfl,rfl⟩,?_⟩;simp only [h5,aF,↓reduceIte];omega
  ·obtain rfl : i = 4:=(by omega);refine jB (Ai @h5 (decide_eq_false (show ¬ ((4 + 1 : Nat) : Int) < 5 by decide))) ?_;refine jF ?_;refine aC ?_;simp only [az,aw,if_true];refine hK _ _ ?_;clear hK aW K K2;refine jB @h4 ?_;exact jJ
def aZ (F G : Nat→UInt8) (N i : Nat) : List AV:=(List.range N).map fun n=>ai (if n < i then F n else G n)
theorem dx (F G : Nat→UInt8) (N i : Nat) : (aZ F G N i).length = N:=by simp [aZ]
theorem ed (F G : Nat→UInt8) (N i : Nat) (x : UInt8) (hx : x = F i) : (aZ F G N i).set i (bV x) = aZ F G N (i + 1):=by
 subst hx;apply List.ext_getElem?;intro k;by_cases e : k = i
 ·subst e;by_cases hk : k < N
  ·rw [List.getElem?_set_self (by rw [dx]; exact hk)];simp [aZ,hk,ai]
  ·rw [List.getElem?_eq_none (by simp [aZ]; omega),List.getElem?_eq_none (by simp [aZ]; omega)]
 ·rw [List.getElem?_set_ne (by omega)];by_cases hk : k < N
  ·simp only [aZ,List.getElem?_map,List.getElem?_range hk,Option.map_some];by_cases h2 : k < i
   ·rw [if_pos h2,if_pos (by omega)]
   ·rw [if_neg h2,if_neg (by omega)]
  ·rw [List.getElem?_eq_none (by simp [aZ]; omega),List.getElem?_eq_none (by simp [aZ]; omega)]
theorem fT (F G : Nat→UInt8) (N : Nat) : aZ F G N N = ((List.range N).map F).map ai:=by
 rw [aZ,List.map_map];apply List.map_congr_left;intro n hn;rw [if_pos (List.mem_range.1 hn)];rfl
theorem su (F G : Nat→UInt8) (N : Nat) : aZ F G N 0 = ((List.range N).map G).map ai:=by
 rw [aZ,List.map_map];apply List.map_congr_left;intro n hn;rw [if_neg (by omega)];rfl
theorem iL (F : Nat→UInt8) (N : Nat) : aZ F (fun _=>0) N 0 = List.replicate N (bV 0):=by
 rw [su];apply List.ext_getElem
 ·simp
 ·intro k h1 h2;simp [ai]
theorem lR {l : List UInt8} {N : Nat} (h : l.length = N) : (List.range N).map (fun n=>l.getD n 0) = l:=by
 apply List.ext_getElem
 ·simp [h]
 ·intro k h1 h2;simp [List.getElem?_eq_getElem h2]
theorem oz (F G : Nat→UInt8) (N i j : Nat) (hj : j < N) : List.drop j (aZ F G N i) = ai (if j < i then F j else G j) :: List.drop (j + 1) (aZ F G N i):=by
 apply drop_cons;simp [aZ,hj]
theorem dA {l : List UInt8} (j : Nat) (h : j < l.length) : List.drop j (l.map ai) = ai (l.getD j 0) :: List.drop (j + 1) (l.map ai):=by
 apply drop_cons;simp [List.getElem?_eq_getElem h]
theorem cr (l : List UInt8) : (l.map ai).all AV.one = true:=pz l
theorem N9 (n : Nat) : cB .u8 (n : Int) = (((UInt8.ofNat n).toNat : Nat) : Int):=by
 have:=sW n;simp only [ai,AV.v.injEq,Value.int.injEq,true_and] at this;exact this.symm
theorem US : ba prog 252 = some (List.replicate 256 (bV 0)):=by kernel_rfl
theorem z157 : ba prog 236 = some (List.replicate 16 (bV 0)):=by kernel_rfl
theorem Oa : (List.range 256).map (fun n=>Aes.sb.getD n 0) = Aes.sb:=lR Aes.sj
theorem F0 (s : AS) : ah prog Γ 239 [] s (fun r s'=>r = .agg (Aes.sb.map ai)∧s' = s):=by
 refine ab func239 rfl ntmps239 results239 (by simp) ?_;refine jS @US fun K hK=>?_;intro o0 ho0;refine hK _ _ ?_;clear hK K;refine jS @US fun K hK=>?_;intro o1 vK;obtain ⟨RY,xej⟩:=AS.fj vK;refine hK _ _ ?_;clear hK K;refine wK fun K hK=>?_;refine jA ?_;refine al ?_;rw [← iL (fun n=>Aes.sb.getD n 0) 256];have ur:=dx (fun n=>Aes.sb.getD n 0) (fun _=>0) 256 0;refine aE (fun E s1=>∃ i : Nat,i≤256∧E 0 = .ptr o0 0∧E 1 = .ptr o1 0∧E 3 = .v (.int .i64 i)∧s1 = (s.set o0 (aZ (fun n=>Aes.sb.getD n 0) (fun _=>0) 256 0)).set o1 (aZ (fun n=>Aes.sb.getD n 0) (fun _=>0) 256 i))
  (fun E _=>match E 3 with | .v (.int _ i)=>256 - i.toNat | _=>0) ?_ ?_
 ·exact ⟨0,by omega,rfl,rfl,rfl,rfl⟩
 ·rintro E1 s1 ⟨i,hi,e0,e1,e3,rfl⟩ -
  by_cases bc : i < 256
  ·have im : (i : Int) < 256:=(by omega);have Gs : (i : Int) < ((256 : Nat) : Int):=(by omega);have ic : (0 : Int)≤(i : Int):=(by omega);refine jB (Ai @e3 (decide_eq_true im)) ?_;refine wK fun K2 aW=>?_;refine jE ?_;refine ag ?_;refine aW _ _ ?_;clear aW K2;refine wK fun K3 bC=>?_;refine al ?_;refine jB @e3 ?_;have cg:=ed (fun n=>Aes.sb.getD n 0) (fun _=>0) 256 i (Aes.box (UInt8.ofNat i)) (Aes.Uk i bc);have hlen:=dx (fun n=>Aes.sb.getD n 0) (fun _=>0) 256 i;generalize aZ (fun n=>Aes.sb.getD n 0) (fun _=>0) 256 i = R at *
   generalize Ih : aZ (fun n=>Aes.sb.getD n 0) (fun _=>0) 256 (i + 1) = R' at *
   refine jU (Ai @e1 @N9) fun K hK=>?_;refine ad (D0 (UInt8.ofNat i) _) ?_;rintro r s2 ⟨rfl,rfl⟩;refine jN (Ai @e1 (Ai @ic (Ai @im (Ai @Gs (Ai @cg @hlen))))) ?_;refine ⟨by omega,hK _ _ ?_⟩;clear hK K;simp only [aw,az,if_true,if_false];refine bC _ _ ?_;clear bC K3;refine jD (Ai @e3 (cS i (by omega))) ?_;refine ⟨⟨i + 1,by omega,e0,e1,rfl,by rw [Ih]⟩,?_⟩;simp only [e3,aF,↓reduceIte];omega
  ·have im : ¬ (i : Int) < 256:=(by omega);obtain rfl : i = 256:=(by omega);refine jB (Ai @e3 (decide_eq_false im)) ?_;refine wK fun K2 aW=>?_;refine jF ?_;refine aC ?_;simp only [az,aw,if_true];clear aW K2;refine hK _ _ ?_;clear hK K;rw [fT,Oa];have A6 : (Aes.sb.map ai).length = 256:=(by rw [List.length_map,Aes.sj]);have cu:=cr Aes.sb;have ft : List.take 256 (Aes.sb.map ai) = Aes.sb.map ai:=List.take_of_length_le (by omega);generalize Aes.sb.map ai = X at *
   generalize aZ (fun n=>Aes.sb.getD n 0) (fun _=>0) 256 0 = R0 at *
   refine jS (Ai @e0 (Ai @e1 (Ai @A6 (Ai @ft (Ai @cu (Ai @RY @RY.symm)))))) fun K hK=>?_;rw [bx R0 X (by omega)];refine ⟨by omega,hK _ _ ?_⟩;clear hK K;refine a7 ?_;refine ch (v:=.agg X) (o:=o0) (off:=0) e0 (AS.aa _ _ _) (by rw [T.Tz]; decide) (by simp only [↓DN,Qa,Qb,Qc,Qd,Qe,Qf,Qg,Qh,reduceCtorEq,↓reduceIte,Na,Nb,Nc,Nk,Nf,Ng,Nh,Za,Zb,Zc,TT,A6,ft]) ?_;exact ⟨_,s,AV.aA.refl _,AS.aB (AS.aB (AS.aB (AS.le.refl s) ho0 _) xej _) ho0 _,rfl,rfl⟩
theorem Q1 (a : Nat) : mV (a : Int) 4 = ((a % 4 : Nat) : Int):=nO a 4
theorem add_const (a c : Nat) (h : a < 1000) (hc : c < 1000) : eu .i64 (a : Int) ((c : Nat) : Int) = ((a + c : Nat) : Int):=by
 rw [gC (by omega)];rfl
theorem Ob (a : Nat) (h : a < 1000) : eu .i64 (a : Int) 1 = ((a + 1 : Nat) : Int):=add_const a 1 h (by omega)
theorem UT (a : Nat) (h : a < 1000) : eu .i64 (a : Int) 2 = ((a + 2 : Nat) : Int):=add_const a 2 h (by omega)
theorem UU (a : Nat) (h : a < 1000) : eu .i64 (a : Int) 3 = ((a + 3 : Nat) : Int):=add_const a 3 h (by omega)
theorem lh {s : AS} {o p q : Nat} {x y : List AV} (h : (if q = p then some x else if q = o then some y else s.aq q) = none) : q≠p∧q≠o∧s.aq q = none:=by
 by_cases h1 : q = p
 ·rw [if_pos h1] at h; cases h
 ·rw [if_neg h1] at h;by_cases h2 : q = o
  ·rw [if_pos h2] at h; cases h
  ·rw [if_neg h2] at h; exact ⟨h1,h2,h⟩
theorem ui (b k : List UInt8) (hb : b.length = 16) (hk : k.length = 16) (s : AS) :
  ah prog Γ 241 [.agg (b.map ai),.agg (k.map ai)] s (fun r s'=>r = .agg ((Aes.add b k).map ai)∧s' = s):=by
 refine ab func241 rfl ntmps241 results241 (by simp) ?_
 have hF : (List.range 16).map (fun n=>b.getD n 0 ^^^ k.getD n 0) = Aes.add b k:=rfl
 have hR0 : aZ (fun n=>b.getD n 0 ^^^ k.getD n 0) (fun n=>b.getD n 0) 16 0 = b.map ai:=by rw [su,lR hb]
 have u9 : (k.map ai).length = 16:=by rw [List.length_map,hk]
 refine wS fun K hK=>?_
 simp only [↓DN,Qa,Qb,Qc,Qd,Qe,Qf,Qg,Qh,reduceCtorEq,↓reduceIte,Na,Nb,Nc,Nk,Nf,Ng,Nh,Za,Zb,Zc,TT,z157]
 intro o2 iR o3 oY
 obtain ⟨l6,A5⟩:=AS.fj oY
 intro o4 zq
 obtain ⟨Q2,KC,vn⟩:=lh zq
 rw [show ([AV.v (.int .u8 0),AV.v (.int .u8 0),AV.v (.int .u8 0),AV.v (.int .u8 0),AV.v (.int .u8 0),AV.v (.int .u8 0),AV.v (.int .u8 0),AV.v (.int .u8 0),AV.v (.int .u8 0),AV.v (.int .u8 0),AV.v (.int .u8 0),AV.v (.int .u8 0),AV.v (.int .u8 0),AV.v (.int .u8 0),AV.v (.int .u8 0),AV.v (.int .u8 0)] : List AV) = List.replicate 16 (bV 0) from rfl]
 refine hK _ _ ?_;clear hK K
 rw [← hR0]
 have j2 : (((s.set o2 (aZ (fun n=>b.getD n 0 ^^^ k.getD n 0) (fun n=>b.getD n 0) 16 0)).set o3 (k.map ai)).set o4 (List.replicate 16 (bV 0))).aq o2 = some (aZ (fun n=>b.getD n 0 ^^^ k.getD n 0) (fun n=>b.getD n 0) 16 0):=by
  rw [AS.ae _ KC.symm,AS.ae _ l6.symm,AS.aa]
 have j3 : (((s.set o2 (aZ (fun n=>b.getD n 0 ^^^ k.getD n 0) (fun n=>b.getD n 0) 16 0)).set o3 (k.map ai)).set o4 (List.replicate 16 (bV 0))).aq o3 = some (k.map ai):=by
  rw [AS.ae _ Q2.symm,AS.aa]
 have j4 : (((s.set o2 (aZ (fun n=>b.getD n 0 ^^^ k.getD n 0) (fun n=>b.getD n 0) 16 0)).set o3 (k.map ai)).set o4 (List.replicate 16 (bV 0))).aq o4 = some (List.replicate 16 (bV 0)):=AS.aa _ _ _
 have hle : s.le (((s.set o2 (aZ (fun n=>b.getD n 0 ^^^ k.getD n 0) (fun n=>b.getD n 0) 16 0)).set o3 (k.map ai)).set o4 (List.replicate 16 (bV 0))):=AS.aB (AS.aB (AS.aB (AS.le.refl s) iR _) A5 _) vn _
 generalize (((s.set o2 (aZ (fun n=>b.getD n 0 ^^^ k.getD n 0) (fun n=>b.getD n 0) 16 0)).set o3 (k.map ai)).set o4 (List.replicate 16 (bV 0))) = s0 at *
 clear oY zq hR0
 have sy : (List.replicate 16 (bV 0)).length = 16:=by simp
 generalize List.replicate 16 (bV 0) = Z at *
 refine wK fun K hK=>?_
 refine wS fun K hK=>?_
 simp only [↓DN,Qa,Qb,Qc,Qd,Qe,Qf,Qg,Qh,reduceCtorEq,↓reduceIte,Na,Nb,Nc,Nk,Nf,Ng,Nh,Za,Zb,Zc,TT]
 refine hK _ _ ?_;clear hK K
 refine al ?_
 refine aE (fun E s1=>∃ i : Nat,i≤16∧E 2 = .ptr o2 0∧E 3 = .ptr o3 0∧E 4 = .ptr o4 0∧E 6 = .v (.int .i64 i)∧s1.aq o2 = some (aZ (fun n=>b.getD n 0 ^^^ k.getD n 0) (fun n=>b.getD n 0) 16 i)∧s1.aq o3 = some (k.map ai)∧s1.aq o4 = some Z∧s.le s1)
  (fun E _=>match E 6 with | .v (.int _ i)=>16 - i.toNat | _=>0) ?_ ?_
 ·exact ⟨0,by omega,by simp only [aF,Nc,↓reduceIte],by simp only [aF,Nc,↓reduceIte],by simp only [aF,Nc,↓reduceIte],by simp only [aF,↓reduceIte]; rfl,j2,j3,j4,hle⟩
 ·clear j2 j3 j4 hle
  rintro E1 s1 ⟨i,hi,e2,e3,e4,e6,j2,j3,j4,hle⟩ -
  by_cases bc : i < 16
  ·have im : (i : Int) < 16:=by omega
   have Gs : (i : Int) < ((16 : Nat) : Int):=by omega
   have ic : (0 : Int)≤(i : Int):=by omega
   refine wS fun K hK=>?_
   simp only [↓DN,Qa,Qb,Qc,Qd,Qe,Qf,Qg,Qh,reduceCtorEq,↓reduceIte,Na,Nb,Nc,Nk,Nf,Ng,Nh,Za,Zb,Zc,TT,e6,decide_eq_true im]
   refine hK _ _ ?_;clear hK K
   refine wK fun K2 aW=>?_
   refine wC fun X Y hX hY=>?_
   simp only [UP,DF,Nc,↓reduceIte,DB]
   refine hX ?_;clear hX hY X Y
   refine ag ?_
   refine aW _ _ ?_;clear aW K2
   refine wK fun K3 bC=>?_
   refine al ?_
   refine wS fun K hK=>?_
   simp only [↓DN,Qa,Qb,Qc,Qd,Qe,Qf,Qg,Qh,reduceCtorEq,↓reduceIte,Na,Nb,Nc,Nk,Nf,Ng,Nh,Za,Zb,Zc,TT,e6]
   refine hK _ _ ?_;clear hK K
   have d2:=oz (fun n=>b.getD n 0 ^^^ k.getD n 0) (fun n=>b.getD n 0) 16 i i bc
   rw [if_neg (Nat.lt_irrefl i)] at d2
   have d3:=dA (l:=k) i (by omega)
   have cg:=ed (fun n=>b.getD n 0 ^^^ k.getD n 0) (fun n=>b.getD n 0) 16 i _ rfl
   have hlen:=dx (fun n=>b.getD n 0 ^^^ k.getD n 0) (fun n=>b.getD n 0) 16 i
   generalize Ih : aZ (fun n=>b.getD n 0 ^^^ k.getD n 0) (fun n=>b.getD n 0) 16 (i + 1) = R' at *
   generalize aZ (fun n=>b.getD n 0 ^^^ k.getD n 0) (fun n=>b.getD n 0) 16 i = R at *
   generalize b.getD i 0 = x at *
   generalize k.getD i 0 = y at *
   generalize k.map ai = Y at *
   refine cw T.mixed [(o2,R),(o3,Y)] [] [2,5] [8] (by kernel_rfl) (by simp only [aD,aG,and_true]; simp [AS.set,aF,j2,j3]) ?_
   intro K hK
   simp only [↓bd,↓aS,cZ,cV,aL,aO,aD,aG,List.any_cons,List.any_nil,List.contains_cons,List.contains_nil,Nat.reduceBEq,Bool.or_false,Bool.or_true,Bool.or_self,Bool.false_or,↓DN,Qa,Qb,Qc,Qd,Qe,Qf,Qg,Qh,reduceCtorEq,↓reduceIte,Na,Nb,Nc,Nk,Nf,Ng,Nh,Za,Zb,Zc,TT,e2,e3,e6,ic,im,Gs,d2,d3,l6,l6.symm,j2,j3,ai,oO,cg,hlen,u9]
   refine ⟨by omega,hK _ _ ?_⟩
   clear hK K
   simp only [aw,az,if_true,if_false]
   refine bC _ _ ?_;clear bC K3
   refine wE fun K hK=>?_
   simp only [↓DN,Qa,Qb,Qc,Qd,Qe,Qf,Qg,Qh,reduceCtorEq,↓reduceIte,Na,Nb,Nc,Nk,Nf,Ng,Nh,Za,Zb,Zc,TT,e6,cS i (by omega)]
   refine hK _ _ ?_;clear hK K
   refine ⟨⟨i + 1,by omega,by simp only [aF,e2,Nc,↓reduceIte],by simp only [aF,e3,Nc,↓reduceIte],by simp only [aF,e4,Nc,↓reduceIte],by simp only [aF,↓reduceIte],by rw [Ih]; exact AS.aa _ _ _,by rw [AS.ae _ l6]; exact j3,by rw [AS.ae _ KC]; exact j4,AS.aB hle iR _⟩,?_⟩
   simp only [e6,aF,↓reduceIte]
   omega
  ·have im : ¬ (i : Int) < 16:=by omega
   obtain rfl : i = 16:=by omega
   refine wS fun K hK=>?_
   simp only [↓DN,Qa,Qb,Qc,Qd,Qe,Qf,Qg,Qh,reduceCtorEq,↓reduceIte,Na,Nb,Nc,Nk,Nf,Ng,Nh,Za,Zb,Zc,TT,e6,decide_eq_false im]
   refine hK _ _ ?_;clear hK K
   refine wK fun K2 aW=>?_
   refine wC fun X Y hX hY=>?_
   simp only [UP,DF,Nc,↓reduceIte,DB]
   refine hY ?_;clear hX hY X Y
   refine aC ?_
   simp only [az,aw,if_true]
   clear aW K2
   refine hK _ _ ?_;clear hK K
   rw [fT,hF] at j2
   have A6 : ((Aes.add b k).map ai).length = 16:=by rw [List.length_map,Aes.DQ]
   have cu:=cr (Aes.add b k)
   have ft : List.take 16 ((Aes.add b k).map ai) = (Aes.add b k).map ai:=List.take_of_length_le (by omega)
   generalize (Aes.add b k).map ai = X at *
   refine wS fun K hK=>?_
   simp only [↓DN,Qa,Qb,Qc,Qd,Qe,Qf,Qg,Qh,reduceCtorEq,↓reduceIte,Na,Nb,Nc,Nk,Nf,Ng,Nh,Za,Zb,Zc,TT,e2,e4,j2,j4,A6,ft,cu,KC,KC.symm]
   rw [bx Z X (by omega)]
   refine ⟨by omega,hK _ _ ?_⟩
   clear hK K
   refine a7 ?_
   refine ch (v:=.agg X) (o:=o4) (off:=0) (by simp only [aF,e4,Nc,↓reduceIte]) (AS.aa _ _ _) (by rw [T.Mi]; decide) (by simp only [↓DN,Qa,Qb,Qc,Qd,Qe,Qf,Qg,Qh,reduceCtorEq,↓reduceIte,Na,Nb,Nc,Nk,Nf,Ng,Nh,Za,Zb,Zc,TT,A6,ft]) ?_
   exact ⟨_,s,AV.aA.refl _,AS.aB hle vn _,rfl,rfl⟩
theorem xC : ¬ (4 : Int) = 0:=by decide
def xk (c : List UInt8) : List UInt8:=(List.range 4).map fun i=>Aes.mx (fun j=>c.getD j 0) i
theorem Oc (c : List UInt8) : (xk c).length = 4:=by simp [xk]
theorem D1 (c : List UInt8) (hc : c.length = 4) (s : AS) :
  ah prog Γ 253 [.agg (c.map ai)] s (fun r s'=>r = .agg ((xk c).map ai)∧s' = s):=by
 refine ab func253 rfl ntmps253 results253 (by simp) ?_;have hF : (List.range 4).map (fun i=>Aes.mx (fun j=>c.getD j 0) i) = xk c:=rfl;have gy : (c.map ai).length = 4:=(by rw [List.length_map,hc]);have hz4 : ([.v (.int .u8 0),.v (.int .u8 0),.v (.int .u8 0),.v (.int .u8 0)] : List AV) = List.replicate 4 (bV 0):=rfl;refine jQ fun K hK=>?_;intro o1 vK o2 iR;obtain ⟨OZ,MP⟩:=AS.fj iR;rw [hz4];refine hK _ _ ?_;clear hK K;refine jQ fun K hK=>?_;intro o3 oY;obtain ⟨l6,Sw,A5⟩:=lh oY;rw [hz4];refine hK _ _ ?_;clear hK K;generalize oq : ((s.set o1 (c.map ai)).set o2 (List.replicate 4 (bV 0))).set o3 (List.replicate 4 (bV 0)) = s0 at *
 have j1 : s0.aq o1 = some (c.map ai):=(by rw [← oq,AS.ae _ Sw.symm,AS.ae _ OZ.symm,AS.aa]);have j2 : s0.aq o2 = some (List.replicate 4 (bV 0)):=(by rw [← oq,AS.ae _ l6.symm,AS.aa]);have j3 : s0.aq o3 = some (List.replicate 4 (bV 0)):=(by rw [← oq]; exact AS.aa _ _ _);have hle : s.le s0:=(by rw [← oq]; exact AS.aB (AS.aB (AS.aB (AS.le.refl s) vK _) MP _) A5 _);clear oq oY iR;have sy : (List.replicate 4 (bV 0)).length = 4:=(by simp);rw [← iL (fun i=>Aes.mx (fun j=>c.getD j 0) i) 4] at j3;generalize List.replicate 4 (bV 0) = Z at *
 refine wK fun K hK=>?_;refine jA ?_;refine al ?_;refine aE (fun E s1=>∃ i : Nat,i≤4∧E 1 = .ptr o1 0∧E 2 = .ptr o2 0∧E 3 = .ptr o3 0∧E 5 = .v (.int .i64 i)∧s1.aq o3 = some (aZ (fun i=>Aes.mx (fun j=>c.getD j 0) i) (fun _=>0) 4 i)∧s1.aq o1 = some (c.map ai)∧s1.aq o2 = some Z∧s.le s1)
  (fun E _=>match E 5 with | .v (.int _ i)=>4 - i.toNat | _=>0) ?_ ?_
 ·exact ⟨0,by omega,rfl,rfl,rfl,rfl,j3,j1,j2,hle⟩
 ·clear j1 j2 j3 hle;rintro E1 s1 ⟨i,hi,e1,e2,e3,e5,j3,j1,j2,hle⟩ -
  by_cases bc : i < 4
  ·have im : (i : Int) < 4:=(by omega);have Gs : (i : Int) < ((4 : Nat) : Int):=(by omega);have ic : (0 : Int)≤(i : Int):=(by omega);refine jB (Ai @e5 (decide_eq_true im)) ?_;refine wK fun K2 aW=>?_;refine jE ?_;refine ag ?_;refine aW _ _ ?_;clear aW K2;refine wK fun K3 bC=>?_;refine al ?_;refine jB @e5 ?_;have cg:=ed (fun i=>Aes.mx (fun j=>c.getD j 0) i) (fun _=>0) 4 i _ rfl;have hlen:=dx (fun i=>Aes.mx (fun j=>c.getD j 0) i) (fun _=>0) 4 i;have JJ : Aes.mx (fun j=>c.getD j 0) i = (((Aes.O0 (c.getD i 0) ^^^ Aes.O0 (c.getD ((i + 1) % 4) 0)) ^^^ c.getD ((i + 1) % 4) 0) ^^^ c.getD ((i + 2) % 4) 0) ^^^ c.getD ((i + 3) % 4) 0:=rfl;rw [JJ] at cg;have d0:=dA (l:=c) i (by omega);have d1:=dA (l:=c) ((i + 1) % 4) (by omega);have d2:=dA (l:=c) ((i + 2) % 4) (by omega);have d3:=dA (l:=c) ((i + 3) % 4) (by omega);have k1 : (0 : Int)≤(((i + 1) % 4 : Nat) : Int):=(by omega);have k2 : (0 : Int)≤(((i + 2) % 4 : Nat) : Int):=(by omega);have k3 : (0 : Int)≤(((i + 3) % 4 : Nat) : Int):=(by omega);have m1 : (((i + 1) % 4 : Nat) : Int) < ((4 : Nat) : Int):=(by omega);have m2 : (((i + 2) % 4 : Nat) : Int) < ((4 : Nat) : Int):=(by omega);have m3 : (((i + 3) % 4 : Nat) : Int) < ((4 : Nat) : Int):=(by omega);clear JJ;generalize Ih : aZ (fun i=>Aes.mx (fun j=>c.getD j 0) i) (fun _=>0) 4 (i + 1) = R' at *
   generalize aZ (fun i=>Aes.mx (fun j=>c.getD j 0) i) (fun _=>0) 4 i = R at *
   generalize c.getD i 0 = x0 at *
   generalize c.getD ((i + 1) % 4) 0 = x1 at *
   generalize c.getD ((i + 2) % 4) 0 = x2 at *
   generalize c.getD ((i + 3) % 4) 0 = x3 at *
   generalize c.map ai = Y at *
   have a1:=Ob i (by omega);have a2:=UT i (by omega);have a3:=UU i (by omega);refine cw T.mixed [(o1,Y),(o3,R)] [4,10] [3,9,16,22,28] [31] (by kernel_rfl) (by simp only [aD,aG,and_true]; simp [AS.set,aF,j1,j3]) ?_;intro K hK;simp only [↓bd,↓aS,cZ,cV,aL,aO,aD,aG,List.any_cons,List.any_nil,List.contains_cons,List.contains_nil,Nat.reduceBEq,Bool.or_false,Bool.or_true,Bool.or_self,Bool.false_or,↓DN,Qa,Qb,Qc,Qd,Qe,Qf,Qg,Qh,reduceCtorEq,↓reduceIte,Na,Nb,Nc,Nk,Nf,Ng,Nh,Za,Zb,Zc,TT,e1,e3,e5,ic,im,Gs,k1,k2,k3,m1,m2,m3,d0,d1,d2,d3,a1,a2,a3,Q1,xC,Sw,Sw.symm,j1,j3,ai,oO,cg,hlen,gy];refine ad (kV x0 _) ?_;rintro r sa ⟨rfl,rfl⟩;simp only [↓bI,↓bp,bL,↓bd,↓aS,cZ,cV,aL,aO,aD,aG,List.any_cons,List.any_nil,DX,Nat.reduceBEq,↓DN,Qa,Qb,Qc,Qd,Qe,Qf,Qg,Qh,reduceCtorEq,↓reduceIte,Na,Nb,Nc,Nk,Nf,Ng,Nh,Za,Zb,Zc,TT,e1,e3,e5,ic,im,Gs,k1,k2,k3,m1,m2,m3,d0,d1,d2,d3,a1,a2,a3,Q1,xC,Sw,Sw.symm,j1,j3,ai,oO,cg,hlen,gy];refine ad (kV x1 _) ?_;rintro r sb ⟨rfl,rfl⟩;simp only [↓bI,↓bp,bL,↓bd,↓aS,cZ,cV,aL,aO,aD,aG,List.any_cons,List.any_nil,DX,Nat.reduceBEq,↓DN,Qa,Qb,Qc,Qd,Qe,Qf,Qg,Qh,reduceCtorEq,↓reduceIte,Na,Nb,Nc,Nk,Nf,Ng,Nh,Za,Zb,Zc,TT,e1,e3,e5,ic,im,Gs,k1,k2,k3,m1,m2,m3,d0,d1,d2,d3,a1,a2,a3,Q1,xC,Sw,Sw.symm,j1,j3,ai,oO,cg,hlen,gy];refine ⟨by omega,hK _ _ ?_⟩;clear hK K;simp only [aw,az,if_true,if_false];refine bC _ _ ?_;clear bC K3;refine jD (Ai @e5 (cS i (by omega))) ?_;refine ⟨⟨i + 1,by omega,e1,e2,e3,rfl,by rw [Ih]; exact AS.aa _ _ _,by rw [AS.ae _ Sw.symm]; exact j1,by rw [AS.ae _ l6.symm]; exact j2,AS.aB hle A5 _⟩,?_⟩;simp only [e5,aF,↓reduceIte];omega
  ·have im : ¬ (i : Int) < 4:=(by omega);obtain rfl : i = 4:=(by omega);refine jB (Ai @e5 (decide_eq_false im)) ?_;refine wK fun K2 aW=>?_;refine jF ?_;refine aC ?_;simp only [az,aw,if_true];clear aW K2;refine hK _ _ ?_;clear hK K;rw [fT,hF] at j3;have A6 : ((xk c).map ai).length = 4:=(by rw [List.length_map,Oc]);have cu:=cr (xk c);have ft : List.take 4 ((xk c).map ai) = (xk c).map ai:=List.take_of_length_le (by omega);generalize (xk c).map ai = X at *
   refine jS (Ai @e2 (Ai @e3 (Ai @j2 (Ai @j3 (Ai @A6 (Ai @ft (Ai @cu (Ai @l6 @l6.symm)))))))) fun K hK=>?_;rw [bx Z X (by omega)];refine ⟨by omega,hK _ _ ?_⟩;clear hK K;refine a7 ?_;refine ch (v:=.agg X) (o:=o2) (off:=0) e2 (AS.aa _ _ _) (by rw [T.TB]; decide) (by simp only [↓DN,Qa,Qb,Qc,Qd,Qe,Qf,Qg,Qh,reduceCtorEq,↓reduceIte,Na,Nb,Nc,Nk,Nf,Ng,Nh,Za,Zb,Zc,TT,A6,ft]) ?_;exact ⟨_,s,AV.aA.refl _,AS.aB hle MP _,rfl,rfl⟩
end Go.Proofs.YtbiefppedlodiaaGreatDoor
