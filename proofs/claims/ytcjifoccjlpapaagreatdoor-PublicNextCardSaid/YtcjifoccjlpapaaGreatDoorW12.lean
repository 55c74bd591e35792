/- Contracts of functions, each walked once; each theorem states its conditions. -/
import Derived.Test.YtcjifoccjlpapaaGreatDoorAMp6
import Derived.Test.YtcjifoccjlpapaaGreatDoorW1
import Derived.Test.YtcjifoccjlpapaaGreatDoorW11
import Derived.Test.YtcjifoccjlpapaaGreatDoorW6
import Derived.Test.YtcjifoccjlpapaaGreatDoorW8
import Derived.Test.YtcjifoccjlpapaaGreatDoorW2
import Derived.Test.YtcjifoccjlpapaaGreatDoorW10
import Derived.Test.YtcjifoccjlpapaaGreatDoorW9
set_option linter.unusedSimpArgs false
set_option linter.unusedVariables false
open Nat renaming reduceLT → Na, reduceLeDiff → Nb, reduceEqDiff → Nc, reduceAdd → Nk, reduceMul → Nf, reducePow → Ng, reduceSub → Nh, reduceBEq → Nz
open Int renaming reduceLT → Za, reduceLE → Zb, reduceToNat → Zc
open And renaming intro → Ai
open Go.AM renaming ashift → Qa, aconv → Qb, aindexAddr → Qc, aindex → Qd, aslice → Qe, abuiltin → Qf, awp_reg_seq → wS, awp_reg_end → wE, awp_seq_k → wK, awp_cond_k → wC
open Go.AM.AV renaming cells → Qg, one → Qh
set_option maxRecDepth 100000
set_option maxHeartbeats 8000000
namespace Go.Proofs.YtcjifoccjlpapaaGreatDoor
open Go Go.AM Go.Proofs Tryz
variable {Γ : Nat→List AV}
def ns (n : Nat) : Bool:=decide (2≤(n : Int)) && decide ((n : Int)≤2305843009213693949)
def sL (t : List aa) (leaf : Nat) (fresh : List Int) (q : bk) (i : Nat) : Bool :=
 ns q.key && decide (q.oO.length = (gL t (fc (nodeAt leaf (aY t) i) : Nat) fresh).length)
def mF (t : List aa) (leaf : Nat) (fresh : List Int) (l : List bk) : Bool:=(List.range l.length).all fun i=>sL t leaf fresh (l.getD i ⟨0,[]⟩) i
def pG (t : List aa) (leaf : Int) (p : ck) (fresh : List Int) : List aa × Int :=
 if pD t leaf≠0 then ([],pD t leaf)
 else if p.steps.length≠(aD leaf.toNat (aY t)).length∨ns p.key = false then ([],45)
 else if mF t leaf.toNat fresh p.steps = false then ([],45)
 else
  let out:=sK t leaf.toNat p.key (p.steps.map (·.key)) fresh
  if (nd out (2 * leaf.toNat)).parent = p.parent then (out,0) else ([],45)
theorem wo {t : List aa} {i : Int} : pD t i = 0↔aA t∧c7 t i:=by
 unfold pD;split
 ·split <;> simp_all
 ·simp_all
theorem Bx (n9 : Γ 0 = gR Sha.H0) (kV : Γ 1 = Sha.K.map wV) (hG : Γ 3 = eW.map nj) (t : List aa) (ht : cV t) (J8 : t.length≤2 ^ 30) (hw : ∀ n ∈ t,qP n) (leaf : Int)
  (p : ck) (hp : p.steps.length≤2 ^ 40) (fresh : List Int) (hf : fresh.length≤2 ^ 40) (s : AS) :
  ah prog Γ 36 [ax t,.v (.int .i64 leaf),.agg p.cells,aC fresh .any] s (fun r s'=>r = .dZ [ax (pG t leaf p fresh).1,.v (.int .i64 (pG t leaf p fresh).2)]∧s' = s):=by
 refine ab func36 rfl ntmps36 results36 (by simp) ?_;have Mx:=fun s=>FG (Γ:=Γ) hG t ht leaf s;have jf:=fun s=>qR (Γ:=Γ) hG t ht s;have IY:=fun n s=>dd (Γ:=Γ) n s;have bR:=fun x s=>wq (Γ:=Γ) hG t ht x fresh (by omega) s;have Yy:=fun hr leaf hm key keys hk s=>DK (Γ:=Γ) n9 kV hG t ht J8 hw hr leaf hm key keys hk fresh hf s;obtain ⟨A,hA⟩ : ∃ A,A = pG t leaf p fresh:=⟨_,rfl⟩;rw [← hA];have rT : (AV.v (.slice none 0 0)).aL (ax []):=AV.aP;obtain ⟨py,Kf,dk⟩:=p;unfold ck.cells;unfold ax at Mx jf bR ⊢;unfold aC at bR ⊢;simp only at hp;have fU:=fun i (h : i < dk.length)=>dB (c:=bk.cells) (k:=2) (fun _=>rfl) h;generalize hY : au bk.cells dk = Y at *
 generalize Ul : au aa.cells t = X at *
 unfold ak;refine az 6 (by decide) ?_;intro K hK;refine jM ?_;intro o1 h1;refine hK _ _ o1 _ rfl h1 ?_;clear hK K h1;refine wK fun K hK=>?_;refine jK (Mx _) ?_;rintro s1 rfl;by_cases he : pD t leaf = 0
 ·have e0 : (pD t leaf != 0) = false:=(by simp [he]);refine jB @e0 ?_;refine jF ?_;refine ad ?_;refine hK _ _ ?_;clear hK K;obtain ⟨hr,hm⟩:=wo.1 he;obtain ⟨lf,rfl⟩:=Int.eq_ofNat_of_zero_le hm.1;obtain ⟨ei,tT⟩ : Fit (aY t)∧t.length = 2 * aY t - 1:=by
   rcases dx (t:=t) with h | h
   ·exact absurd h hr.1
   ·exact h
  have qH:=ei.le;have iS : lf < aY t:=by
   have:=hm.2.1;omega
  have xd:=fk ei iS;have Ls:=fun s=>qN (Γ:=Γ) hG lf (aY t) ei iS s;have Pq : (bt (fK lf (aY t))).length = (aD lf (aY t)).length:=(by simp [bZ,fK]);have hSg : ∀ i,i < (aD lf (aY t)).length→(List.take 1 (List.drop i ((bt (fK lf (aY t))).map aE)))[0]? = some (AV.v (.int .i64 (fc (nodeAt lf (aY t) i) : Nat))):=by
   intro i hi;simp [List.getElem?_take,bt,fK,hi,aE]
  unfold aC at Ls;generalize bt (fK lf (aY t)) = SD at *
  rw [if_pos hr] at jf;unfold pG at hA;rw [if_neg (by rw [he]; simp)] at hA;simp only [Int.toNat_natCast] at hA;refine jQ fun K hK=>?_;refine ae (jf _) ?_;rintro r s2 ⟨rfl,rfl⟩;refine jM ?_;refine ae (Ls _) ?_;rintro r s3 ⟨rfl,rfl⟩;refine jR hK ?_;clear hK K;have dV : A = ([],45)→∀ (E : Env) (s5 : AS),s3.le s5→E 8 = .v (.slice none 0 0)→E 9 = .v (.int .i64 45)→bI prog (#[ResultVar.tmp 8,ResultVar.tmp 9] : Array ResultVar).toList (fun r s'=>r = .dZ [.sl 5 A.1.length (au aa.cells A.1) .any,.v (.int .i64 A.2)]∧s' = s3) E s5:=by
   intro hA' E s5 hle f8 f9;rw [hA'];simp only [bI,bM,dh,f8,f9];exact ⟨_,_,AV.gb rT (AV.aL.refl _),hle,rfl,rfl⟩
  refine wK fun K hK=>?_;by_cases hl : dk.length = (aD lf (aY t)).length
  ·have e1 : ((dk.length : Int) != (SD.length : Int)) = false:=(by rw [Pq,hl]; simp);refine jS @e1 fun K hK=>?_;refine ae (IY py _) ?_;rintro r s4 ⟨rfl,rfl⟩;obtain ⟨q,hq⟩ : ∃ q,q = ns py:=⟨_,rfl⟩;have Ut : (decide (2≤(py : Int)) && decide ((py : Int)≤2305843009213693949)) = q:=hq.symm;rw [Ut];cases q with
   | false =>
    rw [if_pos (.inr hq.symm)] at hA;refine jR hK ?_;clear hK K;refine jE ?_;refine jA ?_;refine bo ?_;try simp only [av,aq]
    exact dV hA _ _ (AS.le.refl _) rfl rfl
   | true =>
    rw [if_neg (by rw [← hq]; simp [hl])] at hA;refine jR hK ?_;clear hK K;refine jF ?_;refine ad ?_;refine hK _ _ ?_;clear hK K;have My : ∀ i,(h : i < dk.length)→sL t lf fresh dk[i] i = false→A = ([],45):=by
     intro i h hb;rw [hA,if_pos];unfold mF;rw [List.all_eq_false];exact ⟨i,by simpa using h,by simp [List.getD,h,hb]⟩
    have HX : (∀ i,(h : i < dk.length)→sL t lf fresh dk[i] i = true)→mF t lf fresh dk = true:=by
     intro h;unfold mF;rw [List.all_eq_true];intro i hi;have aO : i < dk.length:=(by simpa using hi);simp [List.getD,aO,h i aO]
    obtain ⟨kl,Ld⟩ : ∃ kl,kl = dk.map (·.key):=⟨_,rfl⟩;have Tb : kl.length = dk.length:=(by rw [Ld,List.length_map]);have Tc : ∀ i,(h : i < dk.length)→(kl.take (i + 1)).map oM = (kl.take i).map oM ++ [.v (.int .u64 (dk[i].key : Nat))]:=by
     intro i h;rw [List.take_succ_eq_append_getElem (by omega),List.map_append];simp [Ld,oM]
    rw [← Ld] at hA;have N8 : s4.le s4:=AS.le.refl _;refine jA ?_;refine wK fun K hK=>?_;refine jA ?_;refine ag ?_;refine aH (fun E s'=>∃ (i : Nat) (x : AV),i≤dk.length∧(∀ j,(h : j < dk.length)→j < i→sL t lf fresh dk[j] j = true)∧E 39 = .sl 2 dk.length Y .any∧E 40 = .v (.int .i64 dk.length)∧E 41 = .v (.int .i64 i)∧E 0 = .sl 5 t.length X .any∧E 1 = .v (.int .i64 lf)∧E 3 = .sl 1 fresh.length (fresh.map aE) .any ∧
      E 6 = .cX [.v (.int .u64 py),.sl 1 Kf.length (Kf.map aw) .any,.sl 2 dk.length Y .any]∧E 11 = .sl 1 SD.length (SD.map aE) .any∧E 12 = x∧cU 1 s4 s' x i ((kl.take i).map oM)∧s4.le s')
     (fun E _=>match E 41 with | .v (.int _ i)=>dk.length - i.toNat | _=>0) ?_ ?_
    ·exact ⟨0,bL,Nat.zero_le _,fun j _ h=>absurd h (Nat.not_lt_zero _),rfl,rfl,rfl,rfl,rfl,rfl,rfl,rfl,rfl,cU.nil _ _ _,N8⟩
    ·rintro E1 s5 ⟨i,x,hi,Yz,e39,e40,Uu,f0,f1,f3,f6,f11,f12,hx,od⟩ -
     by_cases aO : i < dk.length
     ·have cN : ((i : Nat) : Int) < ((dk.length : Nat) : Int):=(by omega);have bK : (0 : Int)≤((i : Nat) : Int):=(by omega);have Kh : ((i : Nat) : Int) < ((SD.length : Nat) : Int):=(by omega);have bN:=fU i aO;have hsd:=hSg i (by omega);have Sr:=My i aO;have gQ:=Tc i aO;refine jB (Ai @e40 (Ai @Uu (decide_eq_true cN))) ?_;refine wK fun K2 aX=>?_;refine jE ?_;refine ad ?_;refine aX _ _ ?_;clear aX K2;refine wK fun K3 bB=>?_;refine ag ?_;generalize hQe : dk[i] = Q at *
      obtain ⟨qk,qs⟩:=Q;unfold bk.cells at bN;refine az 14 (by decide) ?_;intro K4 fS;refine jN (Ai @e39 (Ai @Uu (Ai @cN (Ai @bK @bN)))) ?_;intro o2 q2;refine fS _ _ o2 _ rfl q2 ?_;clear fS K4 q2;refine wK fun K4 fS=>?_;have zW : sL t lf fresh ⟨qk,qs⟩ i = (ns qk && decide (qs.length = (gL t (fc (nodeAt lf (aY t) i) : Nat) fresh).length)):=rfl;have JV:=fun s=>bR (fc (nodeAt lf (aY t) i) : Nat) s;obtain ⟨RT,hRT⟩ : ∃ RT,RT = gL t (fc (nodeAt lf (aY t) i) : Nat) fresh:=⟨_,rfl⟩;rw [← hRT] at JV zW;obtain ⟨q,Ps⟩ : ∃ q,q = ns qk:=⟨_,rfl⟩;have Pt : (decide (2≤(qk : Int)) && decide ((qk : Int)≤2305843009213693949)) = q:=Ps.symm;have YB:=fun s=>IY qk s;rw [Pt] at YB;rw [← Ps] at zW;refine aZ T.mixed [2,14] (by kernel_rfl) ?_;intro K hK;refine jN (Ai @f0 (Ai @f3 @f11)) ?_;refine ae (YB _) ?_;rintro r s6 ⟨rfl,rfl⟩;cases q with
      | false =>
       refine jR hK ?_;clear hK K;refine jE ?_;refine jA ?_;refine bo ?_;try simp only [av,aq]
       exact dV (Sr (by rw [zW]; rfl)) _ _ od rfl rfl
      | true =>
       refine jN (Ai @f0 (Ai @f3 (Ai @f11 (Ai @bK (Ai @Kh @hsd))))) ?_;refine ae (JV _) ?_;rintro r s7 ⟨rfl,rfl⟩;by_cases yA : qs.length = RT.length
       ·have e1 : ((qs.length : Int) != (RT.length : Int)) = false:=(by rw [yA]; simp);refine jV @e1 hK ?_;clear hK K;refine jF ?_;refine ad ?_;refine fS _ _ ?_;clear fS K4;have bO : ∀ (E : Env) (s6 : AS) (x' : AV),E 39 = .sl 2 dk.length Y .any→E 40 = .v (.int .i64 dk.length)→E 41 = .v (.int .i64 i)→E 0 = .sl 5 t.length X .any→E 1 = .v (.int .i64 lf)→E 3 = .sl 1 fresh.length (fresh.map aE) .any →
          E 6 = .cX [.v (.int .u64 py),.sl 1 Kf.length (Kf.map aw) .any,.sl 2 dk.length Y .any]→E 11 = .sl 1 SD.length (SD.map aE) .any→E 12 = x'→cU 1 s4 s6 x' (i + 1) ((kl.take (i + 1)).map oM)→s4.le s6→K3 E s6:=by
         intro E s6 x' YC Td g41 g0 g1 g3 g6 g11 g12 gx gle;refine bB _ _ ?_;clear bB K3;refine jD (Ai @g41 (aQ i (by omega))) ?_;refine ⟨⟨i + 1,x',aO,?_,YC,Td,rfl,g0,g1,g3,g6,g11,g12,gx,gle⟩,?_⟩
         ·intro j hj GH;by_cases e : j = i
          ·subst e;rw [hQe,zW,decide_eq_true yA];rfl
          ·exact Yz j hj (by omega)
         ·simp only [Uu,aG,↓reduceIte];omega
        clear bB;rcases hx with ⟨rfl,lI,rV⟩ | ⟨tk,ek,rfl,DL,pC⟩
        ·refine wE fun K hK=>?_;simp only [↓DN,Qa,Qb,Qc,Qd,Qe,Qf,Qg,Qh,reduceCtorEq,↓reduceIte,Na,Nb,Nc,Nk,Nf,Ng,Nh,Za,Zb,Zc,TT,f12,bL,List.replicate_succ];intro tk DL;refine hK _ _ (bO _ _ (.sl 1 1 [.v (.int .u64 qk)] (.own tk 0)) e39 e40 Uu f0 f1 f3 f6 f11 rfl ?_ ?_)
         ·refine .inr ⟨tk,0,?_,by simp [AS.cd],bd od DL⟩;rw [gQ,rV];subst lI;rfl
         ·exact AS.bC od (bd od DL) 0
        ·refine wE fun K hK=>?_;simp only [↓DN,Qa,Qb,Qc,Qd,Qe,Qf,Qg,Qh,reduceCtorEq,↓reduceIte,Na,Nb,Nc,Nk,Nf,Ng,Nh,Za,Zb,Zc,TT,f12,DL,List.replicate_succ];refine ⟨by omega,by omega,hK _ _ (bO _ _ (.sl 1 (i + 1) ((kl.take i).map oM ++ [.v (.int .u64 qk)]) (.own tk (ek + 1))) e39 e40 Uu f0 f1 f3 f6 f11 rfl ?_ ?_)⟩
         ·exact .inr ⟨tk,ek + 1,by rw [gQ],by simp [AS.cd],pC⟩
         ·exact AS.bC od pC (ek + 1)
       ·have e1 : ((qs.length : Int) != (RT.length : Int)) = true:=by
         rw [bne_iff_ne];omega
        refine jV @e1 hK ?_;clear hK K;refine jE ?_;refine jA ?_;refine bo ?_;try simp only [av,aq]
        exact dV (Sr (by rw [zW,decide_eq_false yA]; rfl)) _ _ od rfl rfl
     ·have cN : ¬ ((i : Nat) : Int) < ((dk.length : Nat) : Int):=(by omega);refine jB (Ai @e40 (Ai @Uu (decide_eq_false cN))) ?_;refine wK fun K2 aX=>?_;refine jF ?_;refine aB ?_;simp only [av,aq,if_true];refine hK _ _ ?_;clear hK aX K2 K;obtain rfl : i = dk.length:=(by omega);rw [if_neg (by rw [HX fun j h=>Yz j h h]; simp)] at hA;rw [List.take_of_length_le (by omega)] at hx;obtain ⟨out,fQ⟩ : ∃ out,out = sK t lf py kl fresh:=⟨_,rfl⟩;rw [← fQ] at hA;have hwt:=fun s=>ah.jq (.cons (.refl _) (.cons (.refl _) (.cons (.refl _) (.cons hx.aL (.cons (.refl _) .nil))))) (by
       have:=Yy hr lf hm py kl (by omega) s;rw [← fQ] at this;unfold xB ax aC at this;rw [Ul,Tb] at this;exact this)
      have Te : out.length = t.length:=(by rw [fQ]; unfold sK; simp only [List.length_set]; exact uX ..);have hu : 2 * lf < out.length:=(by omega);have bN:=cT hu;have bK : (0 : Int)≤((2 * lf : Nat) : Int):=(by omega);have cN : ((2 * lf : Nat) : Int) < ((out.length : Nat) : Int):=(by omega);have heq:=fun s=>de (Γ:=Γ) (nd out (2 * lf)).parent Kf s;generalize hZ : au aa.cells out = Z at *
      obtain ⟨N,hN⟩ : ∃ N,N = nd out (2 * lf):=⟨_,rfl⟩;rw [← hN] at bN heq hA;obtain ⟨na,nb,nc,iq,nu⟩:=N;unfold aa.cells at bN;unfold ak at bN heq;simp only at heq hA;refine jS (Ai @f0 (Ai @f1 (Ai @f6 (Ai @f12 @f3)))) fun K hK=>?_;refine ae (hwt _) ?_;rintro r s6 ⟨rfl,rfl⟩;refine jR hK ?_;clear hK K;refine wK fun K hK=>?_;refine aZ T.mixed [8] (by kernel_rfl) ?_;intro K hK;refine jN (Ai @f1 (Ai @f6 (Ai (bw lf (by omega)) (Ai @bK (Ai @cN (Ai @af (Ai @hu @bN))))))) ?_;refine ae (heq _) ?_;rintro r s7 ⟨rfl,rfl⟩;by_cases Pu : iq = Kf
      ·rw [if_pos Pu] at hA;rw [decide_eq_true Pu];refine jR hK ?_;clear hK K;refine jF ?_;refine ad ?_;refine hK _ _ ?_;clear hK K;refine jA ?_;refine jI ?_;rw [hA];refine ⟨_,_,AV.aL.refl _,od,?_,rfl⟩;rw [hZ]
      ·rw [if_neg Pu] at hA;rw [decide_eq_false Pu];refine jR hK ?_;clear hK K;refine jE ?_;refine jA ?_;refine bo ?_;try simp only [av,aq]
       exact dV hA _ _ od rfl rfl
  ·have e1 : ((dk.length : Int) != (SD.length : Int)) = true:=by
    rw [Pq,bne_iff_ne];omega
   rw [if_pos (.inl hl)] at hA;refine jB @e1 ?_;refine jE ?_;refine jA ?_;refine bo ?_;try simp only [av,aq]
   exact dV hA _ _ (AS.le.refl _) rfl rfl
 ·have e0 : (pD t leaf != 0) = true:=(by simp [he]);refine jB @e0 ?_;refine jE ?_;refine jA ?_;refine jI ?_;unfold pG at hA;rw [if_pos he] at hA;rw [hA];exact ⟨_,_,AV.gb rT (AV.aL.refl _),AS.le.refl _,rfl,rfl⟩
theorem uY (t : List aa) (fN : aA t) (skip : List Int) (Kj : skip.length≤2 ^ 61) (n : Nat) (hn : n < t.length) (s : AS) :
    ah prog Γ 103 [ax t,.v (.int .i64 n),aC skip .any] s (fun r s'=>r = aC (gL t n skip) .any∧s' = s):=by
  obtain ⟨vE,vC⟩:=fN.span hn;have hT : gL t n skip = iK t skip (lv n) n:=(by unfold gL; rw [if_pos ⟨by omega,by omega,fN⟩,Int.toNat_natCast]);refine ah.settle (tu t fN skip Kj (lv n) n rfl vC vE s) ?_;rintro r s1 ⟨hb,hle⟩;refine ⟨s,_,(bf.aL hb.aL).trans (bf.le _ hle),?_,rfl⟩;rw [hT];simp only [Nat.zero_add,List.nil_append];rfl
theorem zX (t : List aa) (ht : cV t) (fN : aA t) (n : Nat) (hn : n < t.length) (s : AS) :
    ah prog Γ 135 [ax t,.v (.int .i64 n)] s (fun r s'=>r = .v (.string ⟨(oN t n).toArray⟩)∧s' = s):=by
  obtain ⟨vE,vC⟩:=fN.span hn;have hT : oN t n = eM t (lv n) n:=(by unfold oN; rw [if_pos ⟨by omega,by omega,fN⟩,Int.toNat_natCast]);rw [hT];exact yc t ht fN (lv n) n rfl vC vE s
def kJ (t : List aa) (leaf : Nat) (keys : List Nat) (fresh : List Int) : Nat→List aa × List UInt8
 | 0=>(t,[])
 | i + 1 =>
  let j:=(aD leaf (aY t)).length - 1 - i
  let up:=(aD leaf (aY t)).getD j 0
  let p:=kJ t leaf keys fresh i
  let b : aa:=⟨2,[],keys.getD j 0,p.2,zU t fresh up⟩
  (p.1.set up b,Sha.sum (lK b (oN t (fc (nodeAt leaf (aY t) j)))))
theorem qS (t : List aa) (leaf : Nat) (keys : List Nat) (fresh : List Int) : ∀ i,(kJ t leaf keys fresh i).1.length = t.length
 | 0=>rfl
 | i + 1=>by simp only [kJ,List.length_set]; exact qS t leaf keys fresh i
theorem Mz (t : List aa) (leaf : Nat) (keys : List Nat) (fresh : List Int) : ∀ i,(kJ t leaf keys fresh i).2.length≤32
 | 0=>by simp [kJ]
 | i + 1=>by simp only [kJ]; exact Nat.le_of_eq (Sha.dq _)
def kK (t : List aa) (leaf key : Nat) (keys : List Nat) (fresh : List Int) : List aa :=
 let p:=kJ t leaf keys fresh (aD leaf (aY t)).length
 p.1.set (2 * leaf) { nd p.1 (2 * leaf) with key:=key,parent:=p.2 }
theorem wu (n9 : Γ 0 = gR Sha.H0) (kV : Γ 1 = Sha.K.map wV) (t : List aa) (ht : cV t) (J8 : t.length≤2 ^ 30) (hr : aA t) (leaf : Nat) (hm : c7 t leaf)
  (key : Nat) (keys : List Nat) (hk : keys.length = (aD leaf (aY t)).length) (hkw : ∀ k ∈ keys,k < 2 ^ 64) (fresh : List Int) (hf : fresh.length≤2 ^ 40) (s : AS) :
  ah prog Γ 105 [ax t,.v (.int .i64 leaf),.v (.int .u64 key),xB keys,aC fresh .any] s (fun r s'=>zS s s' r (kK t leaf key keys fresh)):=by
 refine ab func105 rfl ntmps105 results105 (by simp) ?_;have SX : aY t≠0:=hr.1;obtain ⟨ei,tT⟩ : Fit (aY t)∧t.length = 2 * aY t - 1:=by
  rcases dx (t:=t) with h | h
  ·exact absurd h SX
  ·exact h
 have qH:=ei.le;have eX : leaf < aY t:=by
  have:=hm.2.1;omega
 have xd:=fk ei eX;have jf:=fun s=>dX (Γ:=Γ) t ht.1 s;have kG:=fun s=>fT (Γ:=Γ) leaf (aY t) ei eX s;have h0 : t.length≠0:=(by omega);have iW : (au aa.cells t).all AV.one = true:=by
  rw [List.all_eq_true];intro c hc;simp only [au,List.mem_flatten,List.mem_map] at hc;obtain ⟨_,⟨n,-,rfl⟩,hc⟩:=hc;simp only [aa.cells,List.mem_cons,List.not_mem_nil,or_false] at hc;rcases hc with rfl | rfl | rfl | rfl | rfl <;> rfl
 unfold ax xB aC at *
 refine jA ?_;refine nG rfl (by decide) ?_;intro ops;refine jM ?_;refine ⟨_,fun G a w hr=>dP (n:=0) (m:=t.length) (cs:=[]) (ds:=au aa.cells t) (e:=64) rfl underlying23 (by simp only [↓DN,Qa,Qb,Qc,Qd,Qe,Qf,Qg,Qh,reduceCtorEq,↓reduceIte,Na,Nb,Nc,Nk,Nf,Ng,Nh,Za,Zb,Zc,TT]; try rfl) T.Oa (by rw [T.kX]; decide) (by rw [T.kX]; rfl) (by rw [T.kX]; simp only [↓DN,Qa,Qb,Qc,Qd,Qe,Qf,Qg,Qh,reduceCtorEq,↓reduceIte,Na,Nb,Nc,Nk,Nf,Ng,Nh,Za,Zb,Zc,TT,iE,aN,aG,Nc,↓reduceIte]) h0 (by rw [T.L4]; omega) (by omega) iW (by rw [T.kX]; exact .inl ⟨rfl,rfl,.inr (.inr rfl)⟩) hr.eval hr.st,?_⟩;rw [T.kX];rintro r s2 ⟨O,cap,rest,rfl,dA,jo,mG,eU,rfl⟩;have GR : s.aJ O = none:=by
  rcases eU with h | ⟨_,h⟩
  ·exact h
  ·simp [aN,aG] at h
 refine jM ?_;rw [Nat.zero_add] at *
 have hO:=AS.aj s O (au aa.cells t ++ rest);have DI : s.le (s.set O (au aa.cells t ++ rest)):=AS.bg (AS.le.refl s) GR _;generalize s.set O (au aa.cells t ++ rest) = s1 at hO DI ⊢;refine jK (jf _) ?_;rintro s2 rfl;refine jK (kG _) ?_;rintro s3 rfl;refine jA ?_;have Mj : (bt (aD leaf (aY t))).length = (aD leaf (aY t)).length:=bZ _;have Yi : ∀ j,j < (aD leaf (aY t)).length→(List.take 1 (List.drop j ((bt (aD leaf (aY t))).map aE)))[0]? = some (AV.v (.int .i64 ((aD leaf (aY t)).getD j 0 : Nat))):=by
  intro j hj;simp [List.getElem?_take,bt,List.getD,hj,aE]
 generalize Ui : bt (aD leaf (aY t)) = PI at *
 have e0 : ed .i64 (PI.length : Int) 1 = (((aD leaf (aY t)).length : Nat) : Int) - 1:=(by rw [uS (by omega) (by omega),Mj]);refine wK fun K hK=>?_;refine jB @e0 ?_;refine ag ?_;refine aH (fun E s'=>∃ i : Nat,i≤(aD leaf (aY t)).length∧E 15 = .v (.int .i64 ((((aD leaf (aY t)).length : Nat) : Int) - 1 - i))∧E 11 = .dj O 0 5 t.length cap∧E 12 = .v (.int .i64 (aY t))∧E 13 = .sl 1 PI.length (PI.map aE) .any∧E 14 = .v (.string ⟨(kJ t leaf keys fresh i).2.toArray⟩) ∧
   E 0 = .sl 5 t.length (au aa.cells t) .any∧E 1 = .v (.int .i64 leaf)∧E 2 = .v (.int .u64 key)∧E 3 = .sl 1 keys.length (keys.map oM) .any∧E 4 = .sl 1 fresh.length (fresh.map aE) .any∧s'.aJ O = some (au aa.cells (kJ t leaf keys fresh i).1 ++ rest)∧s.le s')
  (fun E _=>match E 15 with | .v (.int _ i)=>(i + 1).toNat | _=>0) ?_ ?_
 ·exact ⟨0,Nat.zero_le _,by simp only [aG,Nc,↓reduceIte]; congr 2; omega,rfl,rfl,rfl,rfl,rfl,rfl,rfl,rfl,rfl,hO,DI⟩
 ·rintro E1 s4 ⟨i,hi,g15,g11,g12,g13,g14,g0,g1,g2,g3,g4,qO,oP⟩ -
  refine wK fun K2 aX=>?_;by_cases aO : i < (aD leaf (aY t)).length
  ·obtain ⟨j,hj⟩ : ∃ j,j = (aD leaf (aY t)).length - 1 - i:=⟨_,rfl⟩;have HW : j < (aD leaf (aY t)).length:=(by omega);have Lc : (((aD leaf (aY t)).length : Nat) : Int) - 1 - (i : Int) = (j : Int):=(by omega);rw [Lc] at g15;have bK : decide ((0 : Int)≤((j : Nat) : Int)) = true:=decide_eq_true (by omega);refine jB (Ai @g15 @bK) ?_;refine jE ?_;refine ad ?_;refine aX _ _ ?_;clear aX K2;refine wK fun K3 bB=>?_;refine ag ?_;obtain ⟨par,Bv⟩ : ∃ par,par = (kJ t leaf keys fresh i).2:=⟨_,rfl⟩;obtain ⟨TZ,S4⟩ : ∃ TZ,TZ = (kJ t leaf keys fresh i).1:=⟨_,rfl⟩;rw [← Bv] at g14;rw [← S4] at qO;obtain ⟨up,DJ⟩ : ∃ up,up = (aD leaf (aY t)).getD j 0:=⟨_,rfl⟩;have Yn:=Yi j HW;rw [← DJ] at Yn;have Yo : j < keys.length:=(by omega);have zV : (List.take 1 (List.drop j (keys.map oM)))[0]? = some (AV.v (.int .u64 (keys.getD j 0 : Nat))):=by
    simp [List.getElem?_take,List.getD,Yo,oM]
   have Tf : (0 : Int)≤((j : Nat) : Int):=(by omega);have cN : ((j : Nat) : Int) < ((keys.length : Nat) : Int):=(by omega);have YD : ((j : Nat) : Int) < ((PI.length : Nat) : Int):=(by omega);refine jS (Ai @g15 (Ai @g3 (Ai @g14 (Ai @Tf (Ai @cN @zV))))) fun K hK=>?_;intro ob eU;refine hK _ _ ?_;clear hK K;refine iN (AS.j0 (cs':=[.v (.int .i64 2),ak [] .any,.v (.int .u64 (keys.getD j 0 : Nat)),ak par .any,bL]) (AS.aj _ _ _) (.cons (.refl _) (.cons AV.aP (.cons (.refl _) (.cons AV.db (.cons (.refl _) .nil)))))) ?_;rw [AS.set_set];have I6:=AS.aj s4 ob [.v (.int .i64 2),ak [] .any,.v (.int .u64 (keys.getD j 0 : Nat)),ak par .any,bL];have YE : s4.le (s4.set ob [.v (.int .i64 2),ak [] .any,.v (.int .u64 (keys.getD j 0 : Nat)),ak par .any,bL]):=AS.bg (AS.le.refl _) eU _;generalize s4.set ob [.v (.int .i64 2),ak [] .any,.v (.int .u64 (keys.getD j 0 : Nat)),ak par .any,bL] = s5 at I6 YE ⊢;obtain ⟨Q,hQ⟩ : ∃ Q : Nat→Bool,Q = fun m=>decide (((m : Nat) : Int) ∈ fresh) && (je up m && decide (c7 t m)):=⟨_,rfl⟩;have hU : ∀ m,((List.range (m + 1)).filter Q).map (fun k=>((k : Nat) : Int)) = ((List.range m).filter Q).map (fun k=>((k : Nat) : Int)) ++ (if Q m = true then [((m : Nat) : Int)] else []):=by
    intro m;rw [List.range_succ,List.filter_append,List.map_append];congr 1;by_cases h : Q m = true <;> simp [h]
   have hUf : ((List.range (aY t)).filter Q).map (fun k=>((k : Nat) : Int)) = zU t fresh up:=by
    unfold zU DE;rw [List.filter_map,hQ];rfl
   have MA:=fun m s=>rE (Γ:=Γ) fresh m (by omega) s;have JG:=fun m s=>wg (Γ:=Γ) up m s;have iH:=fun m s=>cn (Γ:=Γ) t ht.1 m s;unfold ax at iH;unfold aC at MA;refine wK fun K hK=>?_;refine jA ?_;refine ag ?_;refine aH (fun E s'=>∃ (m : Nat) (x : AV) (acc : List Int),m≤aY t∧acc = ((List.range m).filter Q).map (fun k=>((k : Nat) : Int))∧E 17 = .v (.int .i64 m)∧E 12 = .v (.int .i64 (aY t))∧E 11 = .dj O 0 5 t.length cap∧E 13 = .sl 1 PI.length (PI.map aE) .any∧E 15 = .v (.int .i64 j)∧E 16 = .ptr ob 0 ∧
     E 0 = .sl 5 t.length (au aa.cells t) .any∧E 1 = .v (.int .i64 leaf)∧E 2 = .v (.int .u64 key)∧E 3 = .sl 1 keys.length (keys.map oM) .any∧E 4 = .sl 1 fresh.length (fresh.map aE) .any ∧
     s'.aJ ob = some [.v (.int .i64 2),ak [] .any,.v (.int .u64 (keys.getD j 0 : Nat)),ak par .any,x]∧cU 1 s4 s' x acc.length (acc.map aE)∧s4.le s')
    (fun E _=>match E 17 with | .v (.int _ i)=>aY t - i.toNat | _=>0) ?_ ?_
   ·exact ⟨0,bL,[],Nat.zero_le _,rfl,rfl,g12,g11,g13,g15,rfl,g0,g1,g2,g3,g4,I6,cU.nil _ _ _,YE⟩
   ·rintro E2 s6 ⟨m,x,acc,En,Ki,Kk,Fq,GN,GO,HD,Pv,k0,k1,k2,k3,k4,qe,hx,gX⟩ -
    refine wK fun K5 js=>?_;by_cases G8 : m < aY t
    ·refine jB (Ai @Kk (Ai @Fq (decide_eq_true (show ((m : Nat) : Int) < ((aY t : Nat) : Int) by omega)))) ?_;refine jE ?_;refine ad ?_;refine js _ _ ?_;clear js K5;refine wK fun K6 oE=>?_;refine ag ?_;have dc:=hU m;rw [← Ki] at dc;have hal : acc.length≤2 ^ 40:=by
      rw [Ki,List.length_map];have:=List.length_filter_le Q (List.range m);rw [List.length_range] at this;omega
     have YF : Q m = (decide (((m : Nat) : Int) ∈ fresh) && (je up m && decide (c7 t m))):=(by rw [hQ]);have bO : ∀ (E : Env) (s7 : AS) (x' : AV) (wk : List Int),wk = ((List.range (m + 1)).filter Q).map (fun k=>((k : Nat) : Int))→E 17 = .v (.int .i64 m)→E 12 = .v (.int .i64 (aY t))→E 11 = .dj O 0 5 t.length cap→E 13 = .sl 1 PI.length (PI.map aE) .any→E 15 = .v (.int .i64 j)→E 16 = .ptr ob 0 →
       E 0 = .sl 5 t.length (au aa.cells t) .any→E 1 = .v (.int .i64 leaf)→E 2 = .v (.int .u64 key)→E 3 = .sl 1 keys.length (keys.map oM) .any→E 4 = .sl 1 fresh.length (fresh.map aE) .any →
       s7.aJ ob = some [.v (.int .i64 2),ak [] .any,.v (.int .u64 (keys.getD j 0 : Nat)),ak par .any,x']→cU 1 s4 s7 x' wk.length (wk.map aE)→s4.le s7→K6 E s7:=by
      intro E s7 x' wk ha f17 f12 f11 f13 f15 f16 f0 f1 f2 f3 f4 S7 fx vY;refine oE _ _ ?_;clear oE K6;refine jD (Ai @f17 (aQ m (by omega))) ?_;refine ⟨⟨m + 1,x',wk,G8,ha,rfl,f12,f11,f13,f15,f16,f0,f1,f2,f3,f4,S7,fx,vY⟩,?_⟩;simp only [Kk,aG,↓reduceIte];omega
     clear oE;have mZ : Q m = false→acc = ((List.range (m + 1)).filter Q).map (fun k=>((k : Nat) : Int)):=(fun h=>by rw [dc,h]; simp);have pF : Q m = true→acc ++ [((m : Nat) : Int)] = ((List.range (m + 1)).filter Q).map (fun k=>((k : Nat) : Int)):=(fun h=>by rw [dc,h]; simp);obtain ⟨b1,oq⟩ : ∃ b,b = decide (((m : Nat) : Int) ∈ fresh):=⟨_,rfl⟩;obtain ⟨b2,JK⟩ : ∃ b,b = je up m:=⟨_,rfl⟩;obtain ⟨b3,N7⟩ : ∃ b,b = decide (c7 t m):=⟨_,rfl⟩;have hh:=fun s=>MA m s;have BS:=fun s=>JG m s;have hmm:=fun s=>iH m s;rw [← oq] at hh;rw [← JK] at BS;rw [← N7] at hmm;rw [← oq,← JK,← N7] at YF;refine jS (Ai @k4 @Kk) fun K hK=>?_;refine ae (hh _) ?_;rintro r s7 ⟨rfl,rfl⟩;cases b1 with
     | false =>
      refine jR hK ?_;clear hK K;refine jF ?_;refine ad ?_;simp only [aq,av,if_true,if_false];exact bO _ _ x acc (mZ (by rw [YF]; rfl)) Kk Fq GN GO HD Pv k0 k1 k2 k3 k4 qe hx gX
     | true =>
      refine jN (Ai @GO (Ai @HD (Ai @Kk (Ai @Tf (Ai @YD @Yn))))) ?_;refine ae (BS _) ?_;rintro r s8 ⟨rfl,rfl⟩;cases b2 with
      | false =>
       refine jR hK ?_;clear hK K;refine jF ?_;refine ad ?_;simp only [aq,av,if_true,if_false];exact bO _ _ x acc (mZ (by rw [YF]; rfl)) Kk Fq GN GO HD Pv k0 k1 k2 k3 k4 qe hx gX
      | true =>
       simp only [↓DM,cw,DX,Nz,↓DN,Qa,Qb,Qc,Qd,Qe,Qf,Qg,Qh,reduceCtorEq,↓reduceIte,Na,Nb,Nc,Nk,Nf,Ng,Nh,Za,Zb,Zc,TT,k0,Kk];refine ae (hmm _) ?_;rintro r s9 ⟨rfl,rfl⟩;cases b3 with
       | false =>
        refine jR hK ?_;clear hK K;refine jF ?_;refine ad ?_;simp only [aq,av,if_true,if_false];exact bO _ _ x acc (mZ (by rw [YF]; rfl)) Kk Fq GN GO HD Pv k0 k1 k2 k3 k4 qe hx gX
       | true =>
        refine jR hK ?_;clear hK K;refine jE ?_;have hy:=pF (by rw [YF]; rfl);rcases hx with ⟨rfl,lI,rV⟩ | ⟨tk,ek,rfl,gQ,pC⟩
        ·unfold bL at qe;refine wE fun K hK=>?_;simp only [↓DN,Qa,Qb,Qc,Qd,Qe,Qf,Qg,Qh,reduceCtorEq,↓reduceIte,Na,Nb,Nc,Nk,Nf,Ng,Nh,Za,Zb,Zc,TT,Pv,Kk,qe,List.replicate_succ];intro tk gQ;refine hK _ _ (bO _ _ (.sl 1 1 [.v (.int .i64 m)] (.own tk 0)) _ hy Kk Fq GN GO HD Pv k0 k1 k2 k3 k4 ?_ ?_ ?_)
         ·rw [AS.aj];rfl
         ·obtain rfl : acc = []:=List.eq_nil_of_length_eq_zero lI;exact .inr ⟨tk,0,rfl,by simp [AS.cd,AS.set],bd gX gQ⟩
         ·exact AS.bg (AS.bC gX (bd gX gQ) 0) eU _
        ·refine wE fun K hK=>?_;simp only [↓DN,Qa,Qb,Qc,Qd,Qe,Qf,Qg,Qh,reduceCtorEq,↓reduceIte,Na,Nb,Nc,Nk,Nf,Ng,Nh,Za,Zb,Zc,TT,Pv,Kk,qe,gQ,List.replicate_succ];refine ⟨by omega,by omega,hK _ _ (bO _ _ (.sl 1 (acc.length + 1) (acc.map aE ++ [.v (.int .i64 m)]) (.own tk (ek + 1))) _ hy Kk Fq GN GO HD Pv k0 k1 k2 k3 k4 ?_ ?_ ?_)⟩
         ·rw [AS.aj];rfl
         ·exact .inr ⟨tk,ek + 1,by rw [List.map_append,List.length_append]; rfl,by simp [AS.cd,AS.set],pC⟩
         ·exact AS.bg (AS.bC gX pC (ek + 1)) eU _
    ·obtain rfl : m = aY t:=(by omega);rw [hUf] at Ki;refine jB (Ai @Kk (Ai @Fq (decide_eq_false (show ¬ ((aY t : Nat) : Int) < ((aY t : Nat) : Int) by omega)))) ?_;refine jF ?_;refine aB ?_;simp only [av,aq,if_true];refine hK _ _ ?_;clear hK js K5 K;obtain ⟨b,hb⟩ : ∃ b : aa,b = ⟨2,[],keys.getD j 0,par,acc⟩:=⟨_,rfl⟩;refine iN (AS.j0 (cs':=b.cells) qe (by rw [hb]; exact .cons (.refl _) (.cons (.refl _) (.cons (.refl _) (.cons (.refl _) (.cons hx.aL .nil)))))) ?_;have GS:=AS.aj s6 ob b.cells;have nn : s4.le (s6.set ob b.cells):=AS.bg gX eU _;generalize s6.set ob b.cells = s7 at GS nn ⊢;have rO:=nn.aJ _ _ qO;have Mu : TZ.length = t.length:=(by rw [S4]; exact qS ..);have S8 : up < TZ.length:=by
      have h1 : up ∈ aD leaf (aY t):=by
       rw [DJ];simp [List.getD,HW]
      have:=(iw ei eX up h1).1;omega
     have S9 : (0 : Int)≤((up : Nat) : Int):=(by omega);have Bi : ((up : Nat) : Int) < ((t.length : Nat) : Int):=(by omega);have nq:=qQ (k:=5) (fun n=>eE n) S8 b rest;have FK : (au aa.cells TZ ++ rest).length = TZ.length * 5 + rest.length:=(by rw [List.length_append,Go.AM.cL eE]);generalize au aa.cells TZ ++ rest = R at rO nq FK;have Ys : b.cells = [.v (.int .i64 2),ak [] .any,.v (.int .u64 (keys.getD j 0 : Nat)),ak par .any,aC acc .any]:=(by rw [hb]; rfl);rw [Ys] at nq GS;simp only [bm] at nq;unfold ak aC at GS nq;simp only [List.length_nil,List.map_nil] at GS nq;have nOb : ¬ ob = O:=(fun e=>by rw [e,qO] at eU; cases eU);refine eS T.mixed [(ob,[.v (.int .i64 2),.sl 1 0 [] .any,.v (.int .u64 (keys.getD j 0 : Nat)),.sl 1 par.length (par.map aw) .any,.sl 1 acc.length (acc.map aE) .any])] [7] [5] [] (by kernel_rfl) (by simp only [aS,bh,and_true]; simp [AS.set,aG,GS]) ?_;intro K hK;simp only [↓bX,↓bG,eR,eP,bn,bu,aS,bh,List.any_cons,List.any_nil,List.contains_cons,List.contains_nil,Nat.reduceBEq,Bool.or_false,Bool.or_true,Bool.or_self,Bool.false_or,↓DN,Qa,Qb,Qc,Qd,Qe,Qf,Qg,Qh,reduceCtorEq,↓reduceIte,Na,Nb,Nc,Nk,Nf,Ng,Nh,Za,Zb,Zc,TT,GN,GO,HD,Pv,Tf,YD,Yn,S9,Bi,GS,rO,nOb];refine ⟨by omega,hK _ _ ?_⟩;clear hK K;rw [nq];have Mv : s.le (s7.set O (au aa.cells (TZ.set up b) ++ rest)):=AS.bg (oP.trans nn) GR _;have uO:=AS.aj s7 O (au aa.cells (TZ.set up b) ++ rest);have ub : (s7.set O (au aa.cells (TZ.set up b) ++ rest)).aJ ob = _:=(AS.aR _ nOb _).trans GS;generalize s7.set O (au aa.cells (TZ.set up b) ++ rest) = s8 at Mv uO ub ⊢;have HY:=fun s=>pW (Γ:=Γ) leaf (aY t) j ei eX HW s;have JL:=(rG ei (kI ei eX HW).1 (kI ei eX HW).2.1).2.2.2.2;have xC:=fun s=>zX (Γ:=Γ) t ht hr (fc (nodeAt leaf (aY t) j)) (by omega) s;obtain ⟨HH,Us⟩ : ∃ HH,HH = oN t (fc (nodeAt leaf (aY t) j) : Nat):=⟨_,rfl⟩;have hHl : HH.length≤2 ^ 30:=by
      rw [Us];unfold oN;split
      ·exact Nat.le_trans (lU t _ _) (by omega)
      ·simp
     rw [← Us] at xC;have YG : par.length≤32:=(by rw [Bv]; exact Mz ..);have pX:=fun s=>rZ (Γ:=Γ) b (by rw [hb]; simp only [List.getD,List.getElem?_eq_getElem Yo,Option.getD_some]; exact hkw _ (List.getElem_mem Yo)) (by rw [hb]; exact YG) HH hHl s;rw [Ys] at pX;unfold ax at xC;unfold ak aC at pX;simp only [List.length_nil,List.map_nil] at pX;refine fB T.mixed [(ob,[.v (.int .i64 2),.sl 1 0 [] .any,.v (.int .u64 (keys.getD j 0 : Nat)),.sl 1 par.length (par.map aw) .any,.sl 1 acc.length (acc.map aE) .any])] [5,6,7] [0] [] (by kernel_rfl) (by simp only [aS,bh,and_true]; simp [AS.set,aG,ub]) ?_;intro K hK;simp only [↓bX,↓bG,eR,eP,bn,bu,aS,bh,List.any_cons,List.any_nil,List.contains_cons,List.contains_nil,Nat.reduceBEq,Bool.or_false,Bool.or_true,Bool.or_self,Bool.false_or,↓DN,Qa,Qb,Qc,Qd,Qe,Qf,Qg,Qh,reduceCtorEq,↓reduceIte,Na,Nb,Nc,Nk,Nf,Ng,Nh,Za,Zb,Zc,TT,Pv,k0,k1,Fq,HD,ub];refine ae (HY _) ?_;rintro r s9 ⟨rfl,rfl⟩;simp only [↓cR,↓ct,cw,↓bX,↓bG,eR,eP,bn,bu,aS,bh,List.any_cons,List.any_nil,DX,Nat.reduceBEq,↓DN,Qa,Qb,Qc,Qd,Qe,Qf,Qg,Qh,reduceCtorEq,↓reduceIte,Na,Nb,Nc,Nk,Nf,Ng,Nh,Za,Zb,Zc,TT,ub];refine ae (xC _) ?_;rintro r Cs ⟨rfl,rfl⟩;simp only [↓cR,↓ct,cw,↓bX,↓bG,eR,eP,bn,bu,aS,bh,List.any_cons,List.any_nil,DX,Nat.reduceBEq,↓DN,Qa,Qb,Qc,Qd,Qe,Qf,Qg,Qh,reduceCtorEq,↓reduceIte,Na,Nb,Nc,Nk,Nf,Ng,Nh,Za,Zb,Zc,TT,ub];refine ae (pX _) ?_;rintro r Oc ⟨rfl,rfl⟩;simp only [↓cR,↓ct,cw,↓bX,↓bG,eR,eP,bn,bu,aS,bh,List.any_cons,List.any_nil,DX,Nat.reduceBEq,↓DN,Qa,Qb,Qc,Qd,Qe,Qf,Qg,Qh,reduceCtorEq,↓reduceIte,Na,Nb,Nc,Nk,Nf,Ng,Nh,Za,Zb,Zc,TT,ub];refine hK _ _ ?_;clear hK K;simp only [aq,av,if_true,if_false];refine bB _ _ ?_;clear bB K3;refine jD (Ai @HD (uS (k:=(j : Int)) (by omega) (by omega))) ?_;refine ⟨⟨i + 1,aO,?_,GN,Fq,GO,?_,k0,k1,k2,k3,k4,?_,Mv⟩,?_⟩
     ·simp only [aG,Nc,↓reduceIte];rw [show ((j : Nat) : Int) - 1 = (((aD leaf (aY t)).length : Nat) : Int) - 1 - ((i + 1 : Nat) : Int) by omega]
     ·simp only [aG,Nc,↓reduceIte];rw [Us,hb,Ki,Bv,DJ,hj];rfl
     ·rw [uO,hb,Ki,Bv,DJ,S4,hj];rfl
     ·simp only [aG,g15,↓reduceIte,Nc];omega
  ·obtain rfl : i = (aD leaf (aY t)).length:=(by omega);have bK : decide ((0 : Int)≤(((aD leaf (aY t)).length : Nat) : Int) - 1 - (((aD leaf (aY t)).length : Nat) : Int)) = false:=decide_eq_false (by omega);refine jB (Ai @g15 @bK) ?_;refine jF ?_;refine aB ?_;simp only [av,aq,if_true];refine hK _ _ ?_;clear hK aX K2 K;have Mu:=qS t leaf keys fresh (aD leaf (aY t)).length;obtain ⟨W,hW⟩ : ∃ W,W = kK t leaf key keys fresh:=⟨_,rfl⟩;rw [← hW];unfold kK at hW;simp only at hW;generalize (kJ t leaf keys fresh (aD leaf (aY t)).length).2 = par at *
   generalize (kJ t leaf keys fresh (aD leaf (aY t)).length).1 = TZ at *
   have hu : 2 * leaf < TZ.length:=(by omega);have nq:=zT hu key par rest;have FK : (au aa.cells TZ ++ rest).length = TZ.length * 5 + rest.length:=(by rw [List.length_append,Go.AM.cL eE]);rw [← hW] at nq;have Pc : W.length = t.length:=(by rw [hW,List.length_set,Mu]);generalize au aa.cells TZ ++ rest = R at qO nq FK;have rY : (0 : Int)≤((2 * leaf : Nat) : Int):=(by omega);have cN : ((2 * leaf : Nat) : Int) < ((t.length : Nat) : Int):=(by omega);have Pr : 2 * leaf < t.length:=(by omega);refine jS (Ai @g11 (Ai @g1 (Ai @g2 (Ai (bw leaf (by omega)) (Ai @rY (Ai @cN (Ai @af (Ai @Pr @qO)))))))) fun K hK=>?_;refine ⟨by omega,hK _ _ ?_⟩;clear hK K;have uO:=AS.aj s4 O (R.set (2 * leaf * 5 + 2) (.v (.int .u64 key)));have od : s.le (s4.set O (R.set (2 * leaf * 5 + 2) (.v (.int .u64 key)))):=AS.bg oP GR _;generalize s4.set O (R.set (2 * leaf * 5 + 2) (.v (.int .u64 key))) = s5 at uO od ⊢;refine jS (Ai @g11 (Ai @g1 (Ai @g14 (Ai (bw leaf (by omega)) (Ai @rY (Ai @cN (Ai @af (Ai @Pr @uO)))))))) fun K hK=>?_;refine ⟨by rw [List.length_set]; omega,hK _ _ ?_⟩;clear hK K;have Pw:=wv (R:=R.set (2 * leaf * 5 + 2) (.v (.int .u64 key))) (off:=2 * leaf * 5 + 3) (a:=[.sl 1 par.length (par.map aw) .no]) (b:=[ak par .any]) rfl (by rw [List.length_set]; simp; omega) (.cons AV.db .nil);simp only [bm] at Pw;refine iN (AS.rI Pw) ?_;rw [nq];have vO:=AS.aj s5 O (au aa.cells W ++ rest);have gX : s.le (s5.set O (au aa.cells W ++ rest)):=AS.bg od GR _;generalize s5.set O (au aa.cells W ++ rest) = s6 at vO gX ⊢;refine jB @g11 ?_;refine jI ?_;exact jW ⟨O,cap,rest,by rw [Pc],vO,by rw [Pc]; exact dA,GR,gX⟩
theorem yd (n9 : Γ 0 = gR Sha.H0) (kV : Γ 1 = Sha.K.map wV) (t : List aa) (ht : cV t) (J8 : t.length≤2 ^ 30) (hr : aA t) (leaf : Nat) (hm : c7 t leaf)
  (key : Nat) (keys : List Nat) (hk : keys.length = (aD leaf (aY t)).length) (hkw : ∀ k ∈ keys,k < 2 ^ 64) (fresh : List Int) (hf : fresh.length≤2 ^ 40) (s : AS) :
  ah prog Γ 105 [ax t,.v (.int .i64 leaf),.v (.int .u64 key),xB keys,aC fresh .any] s (fun r s'=>r = ax (kK t leaf key keys fresh)∧s' = s):=by
 refine ah.forget (ah.settle (wu n9 kV t ht J8 hr leaf hm key keys hk hkw fresh hf s) ?_ (R:=fun r s'=>r = ax (kK t leaf key keys fresh)∧s.le s')) fun r s' ⟨h1,h2⟩=>⟨s,h2,h1,rfl⟩;intro r s' h;obtain ⟨s2,h1,h2⟩:=zS.settle (Γ:=Γ) h;exact ⟨_,_,h1,rfl,h2⟩
def kb (t : List aa) (leaf : Int) (p : ck) (fresh : List Int) : List aa × Int :=
 if pD t leaf≠0 then ([],pD t leaf)
 else if p.steps.length≠(aD leaf.toNat (aY t)).length∨ns p.key = false then ([],45)
 else if mF t leaf.toNat fresh p.steps = false then ([],45)
 else
  let out:=kK t leaf.toNat p.key (p.steps.map (·.key)) fresh
  if (nd out (2 * leaf.toNat)).parent = p.parent then (out,0) else ([],45)
theorem wy (n9 : Γ 0 = gR Sha.H0) (kV : Γ 1 = Sha.K.map wV) (t : List aa) (ht : cV t) (J8 : t.length≤2 ^ 30) (leaf : Int)
  (p : ck) (hp : p.steps.length≤2 ^ 40) (Oe : ∀ q ∈ p.steps,q.key < 2 ^ 64) (fresh : List Int) (hf : fresh.length≤2 ^ 40) (s : AS) :
  ah prog Γ 40 [ax t,.v (.int .i64 leaf),.agg p.cells,aC fresh .any] s (fun r s'=>r = .dZ [ax (kb t leaf p fresh).1,.v (.int .i64 (kb t leaf p fresh).2)]∧s' = s):=by
 refine ab func40 rfl ntmps40 results40 (by simp) ?_;have Mx:=fun s=>zP (Γ:=Γ) t ht leaf s;have jf:=fun s=>dX (Γ:=Γ) t ht.1 s;have IY:=fun n s=>fp (Γ:=Γ) n s;obtain ⟨A,hA⟩ : ∃ A,A = kb t leaf p fresh:=⟨_,rfl⟩;rw [← hA];have rT : (AV.v (.slice none 0 0)).aL (ax []):=AV.aP;obtain ⟨py,Kf,dk⟩:=p;unfold ck.cells;unfold ax at Mx jf ⊢;unfold aC;simp only at hp;have fU:=fun i (h : i < dk.length)=>dB (c:=bk.cells) (k:=2) (fun _=>rfl) h;generalize hY : au bk.cells dk = Y at *
 generalize Ul : au aa.cells t = X at *
 unfold ak;refine az 6 (by decide) ?_;intro K hK;refine jM ?_;intro o1 h1;refine hK _ _ o1 _ rfl h1 ?_;clear hK K h1;refine jK (Mx _) ?_;rintro s1 rfl;refine wK fun K hK=>?_;by_cases he : pD t leaf = 0
 ·have e0 : (pD t leaf != 0) = false:=(by simp [he]);refine jB @e0 ?_;refine jF ?_;refine ad ?_;refine hK _ _ ?_;clear hK K;obtain ⟨hr,hm⟩:=wo.1 he;obtain ⟨lf,rfl⟩:=Int.eq_ofNat_of_zero_le hm.1;obtain ⟨ei,tT⟩ : Fit (aY t)∧t.length = 2 * aY t - 1:=by
   rcases dx (t:=t) with h | h
   ·exact absurd h hr.1
   ·exact h
  have qH:=ei.le;have iS : lf < aY t:=by
   have:=hm.2.1;omega
  have xd:=fk ei iS;have kG:=fun s=>fT (Γ:=Γ) lf (aY t) ei iS s;have Mj : (bt (aD lf (aY t))).length = (aD lf (aY t)).length:=bZ _;unfold aC at kG;generalize bt (aD lf (aY t)) = PI at *
  unfold kb at hA;rw [if_neg (by rw [he]; simp)] at hA;simp only [Int.toNat_natCast] at hA;refine jK (jf _) ?_;rintro s3 rfl;have dV : A = ([],45)→∀ (E : Env) (s5 : AS),s3.le s5→E 8 = .v (.slice none 0 0)→E 9 = .v (.int .i64 45)→bI prog (#[ResultVar.tmp 8,ResultVar.tmp 9] : Array ResultVar).toList (fun r s'=>r = .dZ [.sl 5 A.1.length (au aa.cells A.1) .any,.v (.int .i64 A.2)]∧s' = s3) E s5:=by
   intro hA' E s5 hle f8 f9;rw [hA'];simp only [bI,bM,dh,f8,f9];exact ⟨_,_,AV.gb rT (AV.aL.refl _),hle,rfl,rfl⟩
  refine wK fun K hK=>?_;refine aZ T.mixed [5,11] (by kernel_rfl) ?_;intro K hK;refine jM ?_;refine ae (kG _) ?_;rintro r s4 ⟨rfl,rfl⟩;by_cases hl : dk.length = (aD lf (aY t)).length
  ·have e1 : ((dk.length : Int) != (PI.length : Int)) = false:=(by rw [Mj,hl]; simp);refine jN @e1 ?_;refine ae (IY py _) ?_;rintro r s5 ⟨rfl,rfl⟩;obtain ⟨q,hq⟩ : ∃ q,q = ns py:=⟨_,rfl⟩;have Ut : (decide (2≤(py : Int)) && decide ((py : Int)≤2305843009213693949)) = q:=hq.symm;rw [Ut];cases q with
   | false =>
    rw [if_pos (.inr hq.symm)] at hA;refine jR hK ?_;clear hK K;refine jE ?_;refine jA ?_;refine bo ?_;try simp only [av,aq]
    exact dV hA _ _ (AS.le.refl _) rfl rfl
   | true =>
    rw [if_neg (by rw [← hq]; simp [hl])] at hA;refine jR hK ?_;clear hK K;refine jF ?_;refine ad ?_;refine hK _ _ ?_;clear hK K;have My : ∀ i,(h : i < dk.length)→sL t lf fresh dk[i] i = false→A = ([],45):=by
     intro i h hb;rw [hA,if_pos];unfold mF;rw [List.all_eq_false];exact ⟨i,by simpa using h,by simp [List.getD,h,hb]⟩
    have HX : (∀ i,(h : i < dk.length)→sL t lf fresh dk[i] i = true)→mF t lf fresh dk = true:=by
     intro h;unfold mF;rw [List.all_eq_true];intro i hi;have aO : i < dk.length:=(by simpa using hi);simp [List.getD,aO,h i aO]
    obtain ⟨kl,Ld⟩ : ∃ kl,kl = dk.map (·.key):=⟨_,rfl⟩;have Tb : kl.length = dk.length:=(by rw [Ld,List.length_map]);have xbV : ∀ k ∈ kl,k < 2 ^ 64:=by
     intro k hk;rw [Ld] at hk;obtain ⟨q,hq,rfl⟩:=List.mem_map.1 hk;exact Oe q hq
    have Tc : ∀ i,(h : i < dk.length)→(kl.take (i + 1)).map oM = (kl.take i).map oM ++ [.v (.int .u64 (dk[i].key : Nat))]:=by
     intro i h;rw [List.take_succ_eq_append_getElem (by omega),List.map_append];simp [Ld,oM]
    rw [← Ld] at hA;have hs5 : s5.le s5:=AS.le.refl _;refine jA ?_;refine wK fun K hK=>?_;refine jA ?_;refine ag ?_;refine aH (fun E s'=>∃ (i : Nat) (x : AV),i≤dk.length∧(∀ j,(h : j < dk.length)→j < i→sL t lf fresh dk[j] j = true)∧E 13 = .v (.int .i64 i)∧E 0 = .sl 5 t.length X .any∧E 1 = .v (.int .i64 lf)∧E 3 = .sl 1 fresh.length (fresh.map aE) .any ∧
      E 6 = .cX [.v (.int .u64 py),.sl 1 Kf.length (Kf.map aw) .any,.sl 2 dk.length Y .any]∧E 11 = .v (.int .i64 (aY t))∧E 12 = x∧cU 1 s5 s' x i ((kl.take i).map oM)∧s5.le s')
     (fun E _=>match E 13 with | .v (.int _ i)=>dk.length - i.toNat | _=>0) ?_ ?_
    ·exact ⟨0,bL,Nat.zero_le _,fun j _ h=>absurd h (Nat.not_lt_zero _),rfl,rfl,rfl,rfl,rfl,rfl,rfl,cU.nil _ _ _,hs5⟩
    ·rintro E1 s6 ⟨i,x,hi,Yz,Px,f0,f1,f3,f6,f11,f12,hx,gX⟩ -
     by_cases aO : i < dk.length
     ·have cN : ((i : Nat) : Int) < ((dk.length : Nat) : Int):=(by omega);have bK : (0 : Int)≤((i : Nat) : Int):=(by omega);have bN:=fU i aO;have Sr:=My i aO;have gQ:=Tc i aO;refine wK fun K2 aX=>?_;refine jB (Ai @Px (Ai @f6 (decide_eq_true cN))) ?_;refine jE ?_;refine ad ?_;refine aX _ _ ?_;clear aX K2;refine wK fun K3 bB=>?_;refine ag ?_;generalize hQe : dk[i] = Q at *
      obtain ⟨qk,qs⟩:=Q;unfold bk.cells at bN;have zW : sL t lf fresh ⟨qk,qs⟩ i = (ns qk && decide (qs.length = (gL t (fc (nodeAt lf (aY t) i) : Nat) fresh).length)):=rfl;have HW : i < (aD lf (aY t)).length:=(by omega);have HY:=fun s=>pW (Γ:=Γ) lf (aY t) i ei iS HW s;have JL:=(rG ei (kI ei iS HW).1 (kI ei iS HW).2.1).2.2.2.2;have JV:=fun s=>uY (Γ:=Γ) t hr fresh (by omega) (fc (nodeAt lf (aY t) i)) (by omega) s;obtain ⟨RT,hRT⟩ : ∃ RT,RT = gL t (fc (nodeAt lf (aY t) i) : Nat) fresh:=⟨_,rfl⟩;rw [← hRT] at JV zW;unfold ax aC at JV;rw [Ul] at JV;generalize fc (nodeAt lf (aY t) i) = SN at *
      obtain ⟨q,Ps⟩ : ∃ q,q = ns qk:=⟨_,rfl⟩;have Pt : (decide (2≤(qk : Int)) && decide ((qk : Int)≤2305843009213693949)) = q:=Ps.symm;have YB:=fun s=>IY qk s;rw [Pt] at YB;rw [← Ps] at zW;refine wK fun K4 fS=>?_;refine aZ T.mixed [6,20,22] (by kernel_rfl) ?_;intro K hK;refine jN (Ai @Px (Ai @f6 (Ai @f0 (Ai @f1 (Ai @f3 (Ai @f11 (Ai @cN (Ai @bK @bN)))))))) ?_;refine ae (YB _) ?_;rintro r s7 ⟨rfl,rfl⟩;cases q with
      | false =>
       refine jR hK ?_;clear hK K;refine jE ?_;refine jA ?_;refine bo ?_;try simp only [av,aq]
       exact dV (Sr (by rw [zW]; rfl)) _ _ gX rfl rfl
      | true =>
       refine jN (Ai @Px (Ai @f6 (Ai @f0 (Ai @f1 (Ai @f3 (Ai @f11 (Ai @cN (Ai @bK @bN)))))))) ?_;refine ae (HY _) ?_;rintro r s8 ⟨rfl,rfl⟩;refine jN (Ai @f0 @f3) ?_;refine ae (JV _) ?_;rintro r s9 ⟨rfl,rfl⟩;by_cases yA : qs.length = RT.length
       ·have e1 : ((qs.length : Int) != (RT.length : Int)) = false:=(by rw [yA]; simp);refine jV @e1 hK ?_;clear hK K;refine jF ?_;refine ad ?_;refine fS _ _ ?_;clear fS K4;have bO : ∀ (E : Env) (s6 : AS) (x' : AV),E 13 = .v (.int .i64 i)→E 0 = .sl 5 t.length X .any→E 1 = .v (.int .i64 lf)→E 3 = .sl 1 fresh.length (fresh.map aE) .any →
          E 6 = .cX [.v (.int .u64 py),.sl 1 Kf.length (Kf.map aw) .any,.sl 2 dk.length Y .any]→E 11 = .v (.int .i64 (aY t))→E 12 = x'→cU 1 s5 s6 x' (i + 1) ((kl.take (i + 1)).map oM)→s5.le s6→K3 E s6:=by
         intro E s6 x' g13 g0 g1 g3 g6 g11 g12 gx gle;refine bB _ _ ?_;clear bB K3;refine jD (Ai @g13 (aQ i (by omega))) ?_;refine ⟨⟨i + 1,x',aO,?_,rfl,g0,g1,g3,g6,g11,g12,gx,gle⟩,?_⟩
         ·intro j hj GH;by_cases e : j = i
          ·subst e;rw [hQe,zW,decide_eq_true yA];rfl
          ·exact Yz j hj (by omega)
         ·simp only [Px,aG,↓reduceIte];omega
        clear bB;rcases hx with ⟨rfl,lI,rV⟩ | ⟨tk,ek,rfl,DL,pC⟩
        ·refine wE fun K hK=>?_;simp only [↓DN,Qa,Qb,Qc,Qd,Qe,Qf,Qg,Qh,reduceCtorEq,↓reduceIte,Na,Nb,Nc,Nk,Nf,Ng,Nh,Za,Zb,Zc,TT,Px,f6,f12,bL,cN,bK,bN,List.replicate_succ];intro tk DL;refine hK _ _ (bO _ _ (.sl 1 1 [.v (.int .u64 qk)] (.own tk 0)) Px f0 f1 f3 f6 f11 rfl ?_ ?_)
         ·refine .inr ⟨tk,0,?_,by simp [AS.cd],bd gX DL⟩;rw [gQ,rV];subst lI;rfl
         ·exact AS.bC gX (bd gX DL) 0
        ·refine wE fun K hK=>?_;simp only [↓DN,Qa,Qb,Qc,Qd,Qe,Qf,Qg,Qh,reduceCtorEq,↓reduceIte,Na,Nb,Nc,Nk,Nf,Ng,Nh,Za,Zb,Zc,TT,Px,f6,f12,DL,cN,bK,bN,List.replicate_succ];refine ⟨by omega,by omega,hK _ _ (bO _ _ (.sl 1 (i + 1) ((kl.take i).map oM ++ [.v (.int .u64 qk)]) (.own tk (ek + 1))) Px f0 f1 f3 f6 f11 rfl ?_ ?_)⟩
         ·exact .inr ⟨tk,ek + 1,by rw [gQ],by simp [AS.cd],pC⟩
         ·exact AS.bC gX pC (ek + 1)
       ·have e1 : ((qs.length : Int) != (RT.length : Int)) = true:=by
         rw [bne_iff_ne];omega
        refine jV @e1 hK ?_;clear hK K;refine jE ?_;refine jA ?_;refine bo ?_;try simp only [av,aq]
        exact dV (Sr (by rw [zW,decide_eq_false yA]; rfl)) _ _ gX rfl rfl
     ·have cN : ¬ ((i : Nat) : Int) < ((dk.length : Nat) : Int):=(by omega);refine wK fun K2 aX=>?_;refine jB (Ai @Px (Ai @f6 (decide_eq_false cN))) ?_;refine jF ?_;refine aB ?_;simp only [av,aq,if_true];refine hK _ _ ?_;clear hK aX K2 K;obtain rfl : i = dk.length:=(by omega);rw [if_neg (by rw [HX fun j h=>Yz j h h]; simp)] at hA;rw [List.take_of_length_le (by omega)] at hx;obtain ⟨out,fQ⟩ : ∃ out,out = kK t lf py kl fresh:=⟨_,rfl⟩;rw [← fQ] at hA;have hwt:=fun s=>ah.jq (.cons (.refl _) (.cons (.refl _) (.cons (.refl _) (.cons hx.aL (.cons (.refl _) .nil))))) (by
       have:=yd (Γ:=Γ) n9 kV t ht J8 hr lf hm py kl (by omega) xbV fresh hf s;rw [← fQ] at this;unfold xB ax aC at this;rw [Ul,Tb] at this;exact this)
      have Te : out.length = t.length:=(by rw [fQ]; unfold kK; simp only [List.length_set]; exact qS ..);have hu : 2 * lf < out.length:=(by omega);have bN:=cT hu;have bK : (0 : Int)≤((2 * lf : Nat) : Int):=(by omega);have cN : ((2 * lf : Nat) : Int) < ((out.length : Nat) : Int):=(by omega);generalize hZ : au aa.cells out = Z at *
      obtain ⟨N,hN⟩ : ∃ N,N = nd out (2 * lf):=⟨_,rfl⟩;rw [← hN] at bN hA;obtain ⟨na,nb,nc,iq,nu⟩:=N;unfold aa.cells at bN;unfold ak at bN;simp only at hA;refine jS (Ai @f0 (Ai @f1 (Ai @f6 (Ai @f12 @f3)))) fun K hK=>?_;refine ae (hwt _) ?_;rintro r s7 ⟨rfl,rfl⟩;refine jR hK ?_;clear hK K;refine wK fun K hK=>?_;by_cases Pu : iq = Kf
      ·rw [if_pos Pu] at hA;refine aZ T.mixed [] (by kernel_rfl) ?_;intro K hK;refine jV (Ai @f1 (Ai @f6 (Ai (bw lf (by omega)) (Ai @bK (Ai @cN (Ai @af (Ai @hu (Ai @bN (vX Pu))))))))) hK ?_;clear hK K;refine jF ?_;refine ad ?_;refine hK _ _ ?_;clear hK K;refine jA ?_;refine jI ?_;rw [hA];refine ⟨_,_,AV.aL.refl _,gX,?_,rfl⟩;rw [hZ]
      ·rw [if_neg Pu] at hA;refine aZ T.mixed [] (by kernel_rfl) ?_;intro K hK;refine jV (Ai @f1 (Ai @f6 (Ai (bw lf (by omega)) (Ai @bK (Ai @cN (Ai @af (Ai @hu (Ai @bN (zD Pu))))))))) hK ?_;clear hK K;refine jE ?_;refine jA ?_;refine bo ?_;try simp only [av,aq]
       exact dV hA _ _ gX rfl rfl
  ·have e1 : ((dk.length : Int) != (PI.length : Int)) = true:=by
    rw [Mj,bne_iff_ne];omega
   rw [if_pos (.inl hl)] at hA;refine jV @e1 hK ?_;clear hK K;refine jE ?_;refine jA ?_;refine bo ?_;try simp only [av,aq]
   exact dV hA _ _ (AS.le.refl _) rfl rfl
 ·have e0 : (pD t leaf != 0) = true:=(by simp [he]);refine jB @e0 ?_;refine jE ?_;refine jA ?_;refine jI ?_;unfold kb at hA;rw [if_pos he] at hA;rw [hA];exact ⟨_,_,AV.gb rT (AV.aL.refl _),AS.le.refl _,rfl,rfl⟩
theorem FM {t : List aa} {fresh : List Int} {up : Nat} {x : Int} (h : x ∈ zU t fresh up) : 0≤x∧x < (aY t : Int)∧je up x = true∧c7 t x:=by
  unfold zU DE at h;simp only [List.mem_filter,List.mem_map,List.mem_range,Bool.and_eq_true,decide_eq_true_eq] at h;obtain ⟨⟨k,hk,rfl⟩,_,h2,h3⟩:=h;exact ⟨by omega,by omega,h2,h3⟩
theorem FN (t : List aa) (fresh : List Int) (up : Nat) : fG (zU t fresh up):=by
  refine Cy ?_ fun x hx=>?_
  · unfold zU DE;refine List.Pairwise.filter _ ?_;rw [List.pairwise_map];exact (List.pairwise_lt_range).imp fun h=>by omega
  · have:=FM hx;have:=fL t;omega
theorem uZ {n : Nat} : ns n = true↔2≤n∧n≤2305843009213693949:=by
  unfold ns;rw [Bool.and_eq_true,decide_eq_true_iff,decide_eq_true_iff];omega
theorem u6 {t : List aa} {fresh : List Int} {up k : Nat} {par : List UInt8} (hk : ns k = true) (hp : par.length = 0∨par.length = 32) : (⟨2,[],k,par,zU t fresh up⟩ : aa).right :=
  (eQ rfl).2 ⟨rfl,⟨(uZ.1 hk).1,(uZ.1 hk).2,hp⟩,FN t fresh up⟩
theorem tv (t : List aa) (leaf : Nat) (keys : List Nat) (fresh : List Int) : ∀ i,(kJ t leaf keys fresh i).2.length = 0∨(kJ t leaf keys fresh i).2.length = 32
  | 0=>.inl rfl
  | i + 1=>.inr (by simp only [kJ]; exact Sha.dq _)
theorem Jb {keys : List Nat} (hk : ∀ k ∈ keys,ns k = true) {j : Nat} (h : j < keys.length) : ns (keys.getD j 0) = true:=by
  simp only [List.getD,List.getElem?_eq_getElem h,Option.getD_some];exact hk _ (List.getElem_mem h)
theorem MB {t : List aa} {leaf : Nat} {keys : List Nat} {fresh : List Int} (hk : ∀ k ∈ keys,ns k = true) (hl : (aD leaf (aY t)).length≤keys.length) :
    ∀ i,i≤(aD leaf (aY t)).length→yb t leaf keys fresh i = kJ t leaf keys fresh i
  | 0,_=>rfl
  | i + 1,h=>by
    have ih:=MB hk hl (fresh:=fresh) i (by omega);have hb:=u6 (t:=t) (fresh:=fresh) (up:=(aD leaf (aY t)).getD ((aD leaf (aY t)).length - 1 - i) 0) (Jb hk (j:=(aD leaf (aY t)).length - 1 - i) (by omega)) (tv t leaf keys fresh i);simp only [yb,kJ];rw [ih];unfold rH;rw [if_pos ⟨hb,rfl⟩]
theorem Py {t : List aa} {leaf key : Nat} {keys : List Nat} {fresh : List Int} (hk : ∀ k ∈ keys,ns k = true) (hl : (aD leaf (aY t)).length≤keys.length) : sK t leaf key keys fresh = kK t leaf key keys fresh:=by
  unfold sK kK;rw [MB hk hl _ (Nat.le_refl _)]
theorem xD {t : List aa} {leaf : Nat} {fresh : List Int} {l : List bk} (h : mF t leaf fresh l = true) : ∀ k ∈ l.map (·.key),ns k = true:=by
  intro k hk;obtain ⟨q,hq,rfl⟩:=List.mem_map.1 hk;obtain ⟨i,hi,rfl⟩:=List.getElem_of_mem hq;unfold mF at h;rw [List.all_eq_true] at h;have:=h i (List.mem_range.2 hi);unfold sL at this;rw [Bool.and_eq_true] at this;simpa [List.getD,hi] using this.1
theorem MC (t : List aa) (leaf : Int) (p : ck) (fresh : List Int) : pG t leaf p fresh = kb t leaf p fresh:=by
  unfold pG kb;split
  · rfl
  · split
    · rfl
    · rename_i h2;split
      · rfl
      · rename_i h3;rw [Py (xD (by simpa using h3)) (by rw [List.length_map]; omega)]
def MD (t : List aa) (j : Nat) (n : aa) : Prop:=j % 2 = 1∧n.right∧n.kind = 2∧∀ u ∈ n.fF,0≤u∧u < (aY t : Int)∧je j u = true∧c7 t u
theorem Jc {t : List aa} {leaf : Nat} (ei : Fit (aY t)) (iS : leaf < aY t) {keys : List Nat} {fresh : List Int} (hk : ∀ k ∈ keys,ns k = true) (hl : (aD leaf (aY t)).length≤keys.length) :
    ∀ i,i≤(aD leaf (aY t)).length→∀ j,nd (kJ t leaf keys fresh i).1 j = nd t j∨MD t j (nd (kJ t leaf keys fresh i).1 j)
  | 0,_,_=>.inl rfl
  | i + 1,h,j=>by
    have ih:=Jc ei iS hk hl (fresh:=fresh) i (by omega) j;have hb:=u6 (t:=t) (fresh:=fresh) (up:=(aD leaf (aY t)).getD ((aD leaf (aY t)).length - 1 - i) 0) (Jb hk (j:=(aD leaf (aY t)).length - 1 - i) (by omega)) (tv t leaf keys fresh i);have hm : (aD leaf (aY t)).getD ((aD leaf (aY t)).length - 1 - i) 0 ∈ aD leaf (aY t):=by
      simp only [List.getD,List.getElem?_eq_getElem (show (aD leaf (aY t)).length - 1 - i < (aD leaf (aY t)).length by omega),Option.getD_some];exact List.getElem_mem _
    have hp:=iw ei iS _ hm;simp only [kJ];generalize (aD leaf (aY t)).getD ((aD leaf (aY t)).length - 1 - i) 0 = up at *
    rw [tw];split
    · rename_i e;obtain ⟨rfl,_⟩:=e;exact .inr ⟨hp.2.1,hb,rfl,fun u hu=>FM hu⟩
    · exact ih
theorem HZ {t : List aa} (hr : aA t) {leaf key : Nat} (hm : c7 t leaf) (hp : ns key = true) {keys : List Nat} {fresh : List Int} (hk : ∀ k ∈ keys,ns k = true) (hl : (aD leaf (aY t)).length≤keys.length) : aA (kK t leaf key keys fresh):=by
  obtain ⟨⟨hL,hlen,h1,h2⟩,h3⟩:=hr.DP;have iS : leaf < aY t:=by
    have:=hm.2.1;have:=hL.le;omega
  have hnd:=Jc hL iS (fresh:=fresh) hk hl _ (Nat.le_refl _);have Bv:=tv t leaf keys fresh (aD leaf (aY t)).length;have SC:=qS t leaf keys fresh (aD leaf (aY t)).length;have hev : ∀ a,nd (kJ t leaf keys fresh (aD leaf (aY t)).length).1 (2 * a) = nd t (2 * a):=by
    intro a;rcases hnd (2 * a) with h | h
    · exact h
    · have:=h.1;omega
  have Pz : ∀ j,nd (kK t leaf key keys fresh) j = if j = 2 * leaf then { nd t (2 * leaf) with key:=key,parent:=(kJ t leaf keys fresh (aD leaf (aY t)).length).2 } else nd (kJ t leaf keys fresh (aD leaf (aY t)).length).1 j:=by
    intro j;unfold kK;simp only;rw [tw,hev];by_cases e : j = 2 * leaf
    · rw [if_pos ⟨e.symm,by omega⟩,if_pos e]
    · rw [if_neg (fun q=>e q.1.symm),if_neg e]
  have hlw : (kK t leaf key keys fresh).length = 2 * aY t - 1:=by
    unfold kK;rw [List.length_set,SC,hlen]
  generalize (kJ t leaf keys fresh (aD leaf (aY t)).length).1 = W at *
  generalize (kJ t leaf keys fresh (aD leaf (aY t)).length).2 = par at *
  generalize kK t leaf key keys fresh = T at *
  have oB : (nd t (2 * leaf)).kind = 1:=(by simpa using hm.2.2);have Ro : ∀ a,(nd T (2 * a)).kind = (nd t (2 * a)).kind∧(nd T (2 * a)).name = (nd t (2 * a)).name:=by
    intro a;rw [Pz];by_cases e : 2 * a = 2 * leaf
    · rw [if_pos e,e];exact ⟨rfl,rfl⟩
    · rw [if_neg e,hev];exact ⟨rfl,rfl⟩
  refine (pH hL hlw).2 ⟨fun i hi=>?_,fun a b tO Tg ha hb=>?_,?_⟩
  · by_cases e : i = 2 * leaf
    · rw [Pz,if_pos e];have hq:=(dT oB).1 (h1 _ (show 2 * leaf < 2 * aY t - 1 by omega)).1;refine ⟨(dT (by exact oB)).2 ⟨hq.1,hq.2.1,⟨(uZ.1 hp).1,(uZ.1 hp).2,Bv⟩,hq.2.2.2⟩,.inr ⟨fun _=>by omega,fun _=>oB⟩,?_⟩;have h0 : (nd t (2 * leaf)).fF = []:=List.eq_nil_of_length_eq_zero hq.2.2.2;intro u hu;simp only [h0] at hu;cases hu
    · rw [Pz,if_neg e];rcases hnd i with h | ⟨q1,q2,q3,q4⟩
      · rw [h];obtain ⟨a1,a2,a3⟩:=h1 i hi;refine ⟨a1,a2,fun u hu=>?_⟩;obtain ⟨b1,b2,b3,b4,b5⟩:=a3 u hu;exact ⟨b1,b2,b3,b4,by rw [(Ro _).1]; exact b5⟩
      · refine ⟨q2,.inr ⟨fun h=>(by rw [q3] at h; cases h),fun h=>(by omega)⟩,fun u hu=>?_⟩;obtain ⟨b1,b2,b3,b4⟩:=q4 u hu;have hL2:=hL.le;unfold je kY at b3;rw [if_pos (by omega),Int.toNat_natCast,decide_eq_true_iff] at b3;exact ⟨b3.1,b3.2,b1,b2,by rw [(Ro _).1]; exact b4.2.2⟩
  · rw [(Ro _).1] at ha hb;rw [(Ro _).2,(Ro _).2];exact h2 a b tO Tg ha hb
  · rcases h3 with h3 | ⟨j,j1,j2,j3⟩
    · exact .inl h3
    · exact .inr ⟨j,j1,j2,by rw [(Ro _).1]; exact j3⟩
theorem FO {t : List aa} {leaf : Int} {p : ck} {fresh : List Int} (h : (kb t leaf p fresh).2 = 0) : aA (kb t leaf p fresh).1:=by
  unfold kb at h ⊢;by_cases h1 : pD t leaf≠0
  · rw [if_pos h1] at h;exact absurd h h1
  · rw [if_neg h1] at h ⊢;by_cases h2 : p.steps.length≠(aD leaf.toNat (aY t)).length∨ns p.key = false
    · rw [if_pos h2] at h;cases h
    · rw [if_neg h2] at h ⊢;by_cases h3 : mF t leaf.toNat fresh p.steps = false
      · rw [if_pos h3] at h;cases h
      · rw [if_neg h3] at h ⊢;simp only at h ⊢;by_cases h4 : (nd (kK t leaf.toNat p.key (p.steps.map (·.key)) fresh) (2 * leaf.toNat)).parent = p.parent
        · rw [if_pos h4];obtain ⟨hr,hm⟩:=wo.1 (Classical.not_not.1 h1);have h0:=hm.1;refine HZ hr (by rw [show ((leaf.toNat : Nat) : Int) = leaf by omega]; exact hm) ?_ (xD (by simpa using h3)) (by rw [List.length_map]; omega);cases hq : ns p.key with
          | true=>rfl
          | false=>exact absurd (.inr hq) h2
        · rw [if_neg h4] at h;cases h
def kc (S : gy) (C : aI) (T : List aa) : gy:=⟨S.group,S.b8 + 1,T,Sha.sum (S.inter ++ C.content),Sha.sum (Sha.sum (S.inter ++ C.content) ++ C.gY)⟩
def FP (S : gy) (C : aI) (F : List aa × List Int × Int) (A : List aa × Int) : gy × List Int × Int :=
 if F.2.2≠0 then (gy.bp,[],F.2.2)
 else if wj C = true∧C.gZ = false then (gy.bp,[],45)
 else if C.gZ = true then (if A.2≠0 then (gy.bp,[],A.2) else (kc S C A.1,F.2.1,0))
 else (kc S C F.1,F.2.1,0)
def zY (S : gy) (C : aI) : gy × List Int × Int :=
 FP S C (bl S C (cS S.tree C.br C.props)) (pG (bl S C (cS S.tree C.br C.props)).1 C.br C.path (bl S C (cS S.tree C.br C.props)).2.1)
def mH (S : gy) (C : aI) : gy × List Int × Int :=
 FP S C (bl S C (iP S.tree C.br C.props)) (kb (bl S C (iP S.tree C.br C.props)).1 C.br C.path (bl S C (iP S.tree C.br C.props)).2.1)
theorem qT (S : gy) (C : aI) : bl S C (cS S.tree C.br C.props) = bl S C (iP S.tree C.br C.props):=by
 by_cases h : S.right∧C.right
 ·rw [fold_eq _ _ h.2.1]
 ·unfold bl;rw [if_pos h,if_pos h]
theorem PA (S : gy) (C : aI) : zY S C = mH S C:=by
 unfold zY mH;rw [qT,MC]
theorem rJ {S : gy} {C : aI} (h1 : S.right) (h2 : C.right) (h3 : (cS S.tree C.br C.props).2.2 = true) : (cS S.tree C.br C.props).2.1.length≤16:=by
 have hN:=FQ h1.2.2.2.1 h2.1 h3;have:=wz hN;have:=h2.2.2.2.2.1;omega
theorem Bz (n9 : Γ 0 = gR Sha.H0) (kV : Γ 1 = Sha.K.map wV) (hG : Γ 3 = eW.map nj) (S : gy) (ht : S.wf) (C : aI) (hw : C.wf) (s : AS) :
  ah prog Γ 10 [.agg S.cells,.agg C.cells] s (fun r s'=>r = .dZ [.agg (zY S C).1.cells,aC (zY S C).2.1 .any,.v (.int .i64 (zY S C).2.2)]∧s' = s):=by
 refine ab func10 rfl ntmps10 results10 (by simp) ?_;have ye:=fun s=>qI (Γ:=Γ) hG S ht C (tA hw) s;have sM:=jd S C (cS S.tree C.br C.props);have Le:=fun (h1 : S.right) (h3 : (cS S.tree C.br C.props).2.2 = true)=>kH h1.2.2.2.1 h3;have yf:=rJ (S:=S) (C:=C);have dz:=fun (h : C.right) s=>FH (Γ:=Γ) C (by have:=h.2.2.2.2.1; omega) s;have Rt:=fun s=>BA (Γ:=Γ) C (tA hw) hw s;have fM:=aI.qU (c:=C);obtain ⟨NT,sf⟩ : ∃ NT,NT = zY S C:=⟨_,rfl⟩;rw [← sf];unfold zY FP at sf;generalize bl S C (cS S.tree C.br C.props) = PT at *
 generalize cS S.tree C.br C.props = FF at *
 have lB:=fun (t : List aa) (hr : aA t) (hp : C.path.steps.length≤2 ^ 40) (fr : List Int) (hf : fr.length≤2 ^ 40) s =>
  Bx (Γ:=Γ) n9 kV hG t (tr hr) (by have:=hr.len; have:=this.2.le; omega) (fun q hq=>by have:=gM (hr.nodes hq); unfold qP; omega) C.br C.path hp fr hf s
 have pz:=fun (a b : List UInt8) (h : (a ++ b).length≤2 ^ 40) s=>zZ (Γ:=Γ) n9 kV [a,b] .new (by simp) (by simpa using h) s;have YH : C.right→aI.contents C = C.content:=fun h=>if_pos h;have zV : C.right→(C.gZ = true→C.path.right)∧C.gY.length = 32:=fun h=>⟨h.2.2.2.2.2.1.1,h.2.2.2.2.2.2.1⟩;have Th : S.right→S.inter.length = 32∧S.b8≤1048576∧0≤S.b8∧S.group.length≤16:=fun h=>⟨h.2.2.2.2.2,h.2.2.1,h.2.1,h.1.2⟩;have IQ:=fun s (hl : S.group.length≤2 ^ 45)=>eF (Γ:=Γ) S.group s hl;have ME : ∀ T,(kc S C T).cells = [ak S.group .any,.v (.int .i64 (S.b8 + 1)),ax T,ak (Sha.sum (S.inter ++ C.content)) .any,ak (Sha.sum (Sha.sum (S.inter ++ C.content) ++ C.gY)) .any]:=fun T=>rfl;generalize hN : wj C = N at *
 generalize C.content = CT at *
 generalize aI.contents C = CTs at *
 have KO : ∀ a b : List UInt8,[a,b].flatten = a ++ b:=(fun a b=>by simp);simp only [KO,z7,List.length_cons,List.length_nil,Nat.reduceAdd] at pz;clear hw ht hG n9 kV;rcases sM with ⟨er,GQ,rfl⟩ | ⟨hS,hC,kS,rfl⟩
 ·rw [if_pos (show (([],[],er) : List aa × List Int × Int).2.2≠0 from GQ)] at sf;subst sf;clear Le yf dz Rt fM lB pz YH zV Th IQ ME;simp only at ye ⊢;obtain ⟨cg,ce,cs,cp,ch,qd,cc,cm⟩:=C;obtain ⟨sg,se,st,sc,si⟩:=S;unfold gy.cells aI.cells at ye ⊢;rw [show fm [] = AV.v (.slice none 0 0) from if_pos rfl] at ye;simp only at *
  unfold ax ak aC at *
  generalize au aa.cells st = X at *
  generalize au bk.cells qd.steps = CS at *
  generalize au aF.cells cp = CP at *
  refine bY 2 3 (by decide) (by decide) (by decide) ?_;intro K hK;refine jM ?_;intro o1 q1 o2 q2 o3 q3;obtain ⟨e3,r1,r2,r3⟩:=AS.oF s q1 q2 q3 [.v (.slice none 0 0),.v (.int .i64 0),.v (.slice none 0 0),.v (.slice none 0 0),.v (.slice none 0 0)];rw [e3];refine hK _ _ o1 o2 _ _ rfl rfl r1 r2 ?_;clear hK K q1 q2 q3 e3 r1 r2;refine jK (ye _) ?_;rintro s1 rfl;refine wK fun K hK=>?_;refine ag ?_;refine jB (bF GQ) ?_;refine jE ?_;refine jB @AS.aj ?_;refine bo ?_;refine cY (o:=o3) (off:=0) rfl (AS.aj _ _ _) (by rw [T.Bn]; decide) (by simp only [↓DN,Qa,Qb,Qc,Qd,Qe,Qf,Qg,Qh,reduceCtorEq,↓reduceIte,Na,Nb,Nc,Nk,Nf,Ng,Nh,Za,Zb,Zc,TT]; rfl) ?_;exact ⟨_,s,AV.eD dN AV.aP (AV.aL.refl _),AS.bg (AS.le.refl _) r3 _,rfl,rfl⟩
 ·have MF:=Le hS kS;have qH:=yf hS hC kS;replace dz:=dz hC;replace fM:=fM hC;replace YH:=YH hC;obtain ⟨oB,m9⟩:=zV hC;obtain ⟨GK,KR,hk5,hk6⟩:=Th hS;rw [YH,decide_eq_true hC] at Rt;replace IQ:=fun s=>IQ s (by omega);obtain ⟨FT,FL,FB⟩:=FF;simp only at *
  rw [if_neg (by simp)] at sf;have MG:=fun (hp : C.gZ = true) s=>lB FT MF (by have:=(oB hp).2.2.2; omega) FL (by omega) s;have vE:=fun s=>pz S.inter CT (by rw [List.length_append]; omega) s;obtain ⟨D1,Ti⟩ : ∃ D1,D1 = Sha.sum (S.inter ++ CT):=⟨_,rfl⟩;have xbW : D1.length = 32:=(by rw [Ti]; exact Sha.dq _);have vC:=fun s=>pz D1 C.gY (by rw [List.length_append]; omega) s;rw [← Ti] at vE ME;obtain ⟨D2,YI⟩ : ∃ D2,D2 = Sha.sum (D1 ++ C.gY):=⟨_,rfl⟩;rw [← YI] at vC ME;obtain ⟨A,hA⟩ : ∃ A,A = pG FT C.br C.path FL:=⟨_,rfl⟩;rw [← hA] at MG sf;rw [gK (oK MF)] at ye;have SG : ∀ T,(kc S C T).cells = (kc S C T).cells:=fun _=>rfl;obtain ⟨NS,YJ⟩ : ∃ NS,NS = kc S C:=⟨_,rfl⟩;rw [← YJ] at sf ME;clear lB pz Le yf zV Th YH kS hS hC Ti YI hA YJ SG oB;obtain ⟨cg,ce,cs,cp,ch,qd,cc,cm⟩:=C;obtain ⟨sg,se,st,sc,si⟩:=S;unfold gy.cells aI.cells ck.cells at *
  simp only at *
  unfold ax ak aC at *
  generalize au aa.cells st = X at *
  generalize au bk.cells qd.steps = CS at *
  generalize au aF.cells cp = CP at *
  generalize hXF : au aa.cells FT = XF at *
  generalize hFC : FL.map aE = FC at *
  obtain ⟨VS,I0⟩ : ∃ VS,VS = AV.cX [.sl 1 sg.length (sg.map aw) .any,.v (.int .i64 se),.sl 5 st.length X .any,.sl 1 sc.length (sc.map aw) .any,.sl 1 si.length (si.map aw) .any]:=⟨_,rfl⟩;obtain ⟨VC,qK⟩ : ∃ VC,VC = AV.cX [.sl 1 cg.length (cg.map aw) .any,.v (.int .i64 ce),.v (.int .i64 cs),.sl 5 cp.length CP .any,.v (.bool ch),.v (.int .u64 qd.key),.sl 1 qd.parent.length (qd.parent.map aw) .any,.sl 2 qd.steps.length CS .any,.sl 1 cc.length (cc.map aw) .any,.sl 1 cm.length (cm.map aw) .any]:=⟨_,rfl⟩;refine bY 2 3 (by decide) (by decide) (by decide) ?_;intro K hK;refine jM ?_;intro o1 q1 o2 q2 o3 q3;obtain ⟨e3,r1,r2,r3⟩:=AS.oF s q1 q2 q3 [.v (.slice none 0 0),.v (.int .i64 0),.v (.slice none 0 0),.v (.slice none 0 0),.v (.slice none 0 0)];rw [e3];refine hK _ _ o1 o2 _ _ rfl rfl r1 r2 ?_;clear hK K q1 q2 q3 e3 r1 r2;refine jK (ye _) ?_;rintro s1 rfl;refine wK fun K1 tQ=>?_;refine ag ?_;have hJ : ¬ (N = true∧ch = false)→∀ (E : Env),E 2 = VS→E 3 = VC→E 4 = .ptr o3 0→E 7 = .sl 5 FT.length XF .any→E 8 = .sl 1 FL.length FC .any→K1 E (s.set o3 [.v (.slice none 0 0),.v (.int .i64 0),.v (.slice none 0 0),.v (.slice none 0 0),.v (.slice none 0 0)]):=by
   intro hn E g2 g3 g4 g7 g8;refine tQ _ _ ?_;clear tQ K1;rw [if_neg hn] at sf;refine wK fun K2 aX=>?_;have gC : ∀ (E : Env) (Tr : List aa),NT = (NS Tr,FL,0)→E 7 = .sl 5 Tr.length (au aa.cells Tr) .any→E 2 = VS→E 3 = VC→E 4 = .ptr o3 0→E 8 = .sl 1 FL.length FC .any→K2 E (s.set o3 [.v (.slice none 0 0),.v (.int .i64 0),.v (.slice none 0 0),.v (.slice none 0 0),.v (.slice none 0 0)]):=by
    intro E Tr hT g7 g2 g3 g4 g8;refine aX _ _ ?_;clear aX K2;have hcT:=ME Tr;rw [hT];generalize au aa.cells Tr = XT at *
    refine jS (Ai @g3 @qK) fun K hK=>?_;refine ae (Rt _) ?_;rintro r s2 ⟨rfl,rfl⟩;refine jR hK ?_;clear hK K;refine wS fun K hK=>?_;simp only [↓DN,Qa,Qb,Qc,Qd,Qe,Qf,Qg,Qh,reduceCtorEq,↓reduceIte,Na,Nb,Nc,Nk,Nf,Ng,Nh,Za,Zb,Zc,TT,g2,I0,List.replicate_succ,List.replicate_zero];refine ae (vE _) ?_;rintro r s3 ⟨rfl,rfl⟩;refine jR hK ?_;clear hK K;have Uv : jn .i64 se 1 = se + 1:=gF (by omega);refine aZ T.mixed [2,12,15] (by kernel_rfl) ?_;intro K hK;simp only [↓DM,cw,DX,Nz,↓DN,Qa,Qb,Qc,Qd,Qe,Qf,Qg,Qh,reduceCtorEq,↓reduceIte,Na,Nb,Nc,Nk,Nf,Ng,Nh,Za,Zb,Zc,TT,g2,I0,g3,qK,g4,g7,g8,Uv,List.replicate_succ,List.replicate_zero];refine ae (IQ _) ?_;rintro r s4 ⟨rfl,rfl⟩;simp only [↓DM,cw,DX,Nz,↓DN,Qa,Qb,Qc,Qd,Qe,Qf,Qg,Qh,reduceCtorEq,↓reduceIte,Na,Nb,Nc,Nk,Nf,Ng,Nh,Za,Zb,Zc,TT,g2,I0,g3,qK,g4,g7,g8,Uv,List.replicate_succ,List.replicate_zero];refine ae (vC _) ?_;rintro r s5 ⟨rfl,rfl⟩;refine jV (Ai @g2 (Ai @I0 (Ai @g3 (Ai @qK (Ai @g4 (Ai @g7 (Ai @g8 (Ai @Uv @AS.aj)))))))) hK ?_;clear hK K;simp only;rw [hcT];refine bo ?_;refine cY (o:=o3) (off:=0) g4 (AS.aj _ _ _) (by rw [T.Bn]; decide) (by simp only [↓DN,Qa,Qb,Qc,Qd,Qe,Qf,Qg,Qh,reduceCtorEq,↓reduceIte,Na,Nb,Nc,Nk,Nf,Ng,Nh,Za,Zb,Zc,TT]; rfl) ?_;exact ⟨_,s,AV.aL.refl _,AS.bg (AS.le.refl _) r3 _,by simp only [aG,g8,hFC,Nc,↓reduceIte],rfl⟩
   cases ch with
   | false =>
    refine jB (Ai @g3 @qK) ?_;refine jF ?_;refine ad ?_;exact gC _ FT (by simpa using sf) (by rw [hXF]; exact g7) g2 g3 g4 g8
   | true =>
    clear hn;rw [if_pos rfl] at sf;refine jB (Ai @g3 @qK) ?_;refine jE ?_;refine jS (Ai @g3 (Ai @qK (Ai @g7 @g8))) fun K hK=>?_;refine ae (MG rfl _) ?_;rintro r s2 ⟨rfl,rfl⟩;refine jR hK ?_;clear hK K;by_cases hA0 : A.2 = 0
    ·rw [if_neg (fun k=>k hA0)] at sf;refine jB (cC hA0) ?_;refine jF ?_;refine ad ?_;exact gC _ A.1 sf rfl g2 g3 g4 g8
    ·rw [if_pos hA0] at sf;refine jB (bF hA0) ?_;refine jE ?_;refine jB (Ai @g4 @AS.aj) ?_;rw [sf];refine bo ?_;refine cY (o:=o3) (off:=0) g4 (AS.aj _ _ _) (by rw [T.Bn]; decide) (by simp only [↓DN,Qa,Qb,Qc,Qd,Qe,Qf,Qg,Qh,reduceCtorEq,↓reduceIte,Na,Nb,Nc,Nk,Nf,Ng,Nh,Za,Zb,Zc,TT]; rfl) ?_;exact ⟨_,s,AV.eD dN AV.aP (AV.aL.refl _),AS.bg (AS.le.refl _) r3 _,rfl,rfl⟩
  clear tQ;refine jB (show ((0 : Int) != 0) = false from rfl) ?_;refine jF ?_;refine jQ fun K hK=>?_;refine ae (dz _) ?_;rintro r s2 ⟨rfl,rfl⟩;cases N with
  | false =>
   refine jR hK ?_;clear hK K;refine jF ?_;refine ad ?_;simp only [aq,av,if_true,if_false];exact hJ (by simp) _ (by rw [I0]; exact rfl) (by rw [qK]; exact rfl) rfl rfl rfl
  | true =>
   cases ch with
   | true =>
    refine jR hK ?_;clear hK K;refine jF ?_;refine ad ?_;simp only [aq,av,if_true,if_false];exact hJ (by simp) _ (by rw [I0]; exact rfl) (by rw [qK]; exact rfl) rfl rfl rfl
   | false =>
    rw [if_pos ⟨rfl,rfl⟩] at sf;refine jR hK ?_;clear hK K;refine jE ?_;refine jB @AS.aj ?_;rw [sf];refine bo ?_;refine cY (o:=o3) (off:=0) rfl (AS.aj _ _ _) (by rw [T.Bn]; decide) (by simp only [↓DN,Qa,Qb,Qc,Qd,Qe,Qf,Qg,Qh,reduceCtorEq,↓reduceIte,Na,Nb,Nc,Nk,Nf,Ng,Nh,Za,Zb,Zc,TT]; rfl) ?_;exact ⟨_,s,AV.eD dN AV.aP (AV.aL.refl _),AS.bg (AS.le.refl _) r3 _,rfl,rfl⟩
theorem wA (n9 : Γ 0 = gR Sha.H0) (kV : Γ 1 = Sha.K.map wV) (S : gy) (ht : S.wf) (C : aI) (hw : C.wf) (s : AS) :
  ah prog Γ 11 [.agg S.cells,.agg C.cells] s (fun r s'=>r = .dZ [.agg (mH S C).1.cells,aC (mH S C).2.1 .any,.v (.int .i64 (mH S C).2.2)]∧s' = s):=by
 refine ab func11 rfl ntmps11 results11 (by simp) ?_;have ye:=fun s=>oJ (Γ:=Γ) S ht C hw s;have sM:=jd S C (cS S.tree C.br C.props);rw [qT] at sM;have Le:=fun (h1 : S.right) (h3 : (cS S.tree C.br C.props).2.2 = true)=>kH h1.2.2.2.1 h3;have yf:=rJ (S:=S) (C:=C);have Rt:=fun (h : C.right) s=>vZ (Γ:=Γ) C hw h s;have Oe:=fun (q : bk) (hq : q ∈ C.path.steps)=>(hw.2.1.2.1 q hq).1;have fM:=aI.qU (c:=C);obtain ⟨NT,sf⟩ : ∃ NT,NT = mH S C:=⟨_,rfl⟩;rw [← sf];unfold mH FP at sf;generalize bl S C (iP S.tree C.br C.props) = PT at *
 generalize cS S.tree C.br C.props = FF at *
 have lB:=fun (t : List aa) (hr : aA t) (hp : C.path.steps.length≤2 ^ 40) (fr : List Int) (hf : fr.length≤2 ^ 40) s =>
  wy (Γ:=Γ) n9 kV t (tr hr) (by have:=hr.len; have:=this.2.le; omega) C.br C.path hp Oe fr hf s
 have pz:=fun (a b : List UInt8) (h : (a ++ b).length≤2 ^ 40) s=>lL (Γ:=Γ) (a ++ b) h s;have zV : C.right→(C.gZ = true→C.path.right)∧C.gY.length = 32:=fun h=>⟨h.2.2.2.2.2.1.1,h.2.2.2.2.2.2.1⟩;have Th : S.right→S.inter.length = 32∧S.b8≤1048576∧0≤S.b8∧S.group.length≤16:=fun h=>⟨h.2.2.2.2.2,h.2.2.1,h.2.1,h.1.2⟩;have ME : ∀ T,(kc S C T).cells = [ak S.group .any,.v (.int .i64 (S.b8 + 1)),ax T,ak (Sha.sum (S.inter ++ C.content)) .any,ak (Sha.sum (Sha.sum (S.inter ++ C.content) ++ C.gY)) .any]:=fun T=>rfl;generalize hN : wj C = N at *
 generalize C.content = CT at *
 clear hw ht n9 kV;rcases sM with ⟨er,GQ,rfl⟩ | ⟨hS,hC,kS,rfl⟩
 ·rw [if_pos (show (([],[],er) : List aa × List Int × Int).2.2≠0 from GQ)] at sf;subst sf;clear Le yf Rt fM lB pz zV Th ME Oe hN;simp only at ye ⊢;obtain ⟨cg,ce,cs,cp,ch,qd,cc,cm⟩:=C;obtain ⟨sg,se,st,sc,si⟩:=S;unfold gy.cells aI.cells at ye ⊢;rw [show fm [] = AV.v (.slice none 0 0) from if_pos rfl] at ye;simp only at *
  unfold ax ak aC at *
  generalize au aa.cells st = X at *
  generalize au bk.cells qd.steps = CS at *
  generalize au aF.cells cp = CP at *
  refine bY 2 3 (by decide) (by decide) (by decide) ?_;intro K hK;refine jM ?_;intro o1 q1 o2 q2 o3 q3;obtain ⟨e3,r1,r2,r3⟩:=AS.oF s q1 q2 q3 [.v (.slice none 0 0),.v (.int .i64 0),.v (.slice none 0 0),.v (.slice none 0 0),.v (.slice none 0 0)];rw [e3];refine hK _ _ o1 o2 _ _ rfl rfl r1 r2 ?_;clear hK K q1 q2 q3 e3 r1 r2;refine jK (ye _) ?_;rintro s1 rfl;refine wK fun K hK=>?_;refine jB (bF GQ) ?_;refine jE ?_;refine jB @AS.aj ?_;refine bo ?_;refine cY (o:=o3) (off:=0) rfl (AS.aj _ _ _) (by rw [T.Bn]; decide) (by simp only [↓DN,Qa,Qb,Qc,Qd,Qe,Qf,Qg,Qh,reduceCtorEq,↓reduceIte,Na,Nb,Nc,Nk,Nf,Ng,Nh,Za,Zb,Zc,TT]; rfl) ?_;exact ⟨_,s,AV.eD dN AV.aP (AV.aL.refl _),AS.bg (AS.le.refl _) r3 _,rfl,rfl⟩
 ·have MF:=Le hS kS;have qH:=yf hS hC kS;replace fM:=fM hC;obtain ⟨oB,m9⟩:=zV hC;obtain ⟨GK,KR,hk5,hk6⟩:=Th hS;replace Rt:=Rt hC;have xd:=hC.2.2.2.2.1;obtain ⟨FT,FL,FB⟩:=FF;simp only at *
  rw [if_neg (by simp)] at sf;have MG:=fun (hp : C.gZ = true) s=>lB FT MF (by have:=(oB hp).2.2.2; omega) FL (by omega) s;have vE:=fun s=>pz S.inter CT (by rw [List.length_append]; omega) s;obtain ⟨D1,Ti⟩ : ∃ D1,D1 = Sha.sum (S.inter ++ CT):=⟨_,rfl⟩;have xbW : D1.length = 32:=(by rw [Ti]; exact Sha.dq _);have vC:=fun s=>pz D1 C.gY (by rw [List.length_append]; omega) s;rw [← Ti] at vE ME;obtain ⟨D2,YI⟩ : ∃ D2,D2 = Sha.sum (D1 ++ C.gY):=⟨_,rfl⟩;rw [← YI] at vC ME;obtain ⟨A,hA⟩ : ∃ A,A = kb FT C.br C.path FL:=⟨_,rfl⟩;rw [← hA] at MG sf;rw [gK (oK MF)] at ye;have SG : ∀ T,(kc S C T).cells = (kc S C T).cells:=fun _=>rfl;obtain ⟨NS,YJ⟩ : ∃ NS,NS = kc S C:=⟨_,rfl⟩;rw [← YJ] at sf ME;clear lB pz Le yf zV Th kS hS hC Ti YI hA YJ SG oB Oe;obtain ⟨cg,ce,cs,cp,ch,qd,cc,cm⟩:=C;obtain ⟨sg,se,st,sc,si⟩:=S;unfold gy.cells aI.cells ck.cells at *
  simp only at *
  unfold ax ak aC at *
  generalize au aa.cells st = X at *
  generalize au bk.cells qd.steps = CS at *
  have fU:=fun i (h : i < cp.length)=>dB (c:=aF.cells) (k:=5) (fun _=>rfl) h;generalize au aF.cells cp = CP at *
  generalize hXF : au aa.cells FT = XF at *
  generalize hFC : FL.map aE = FC at *
  obtain ⟨VS,I0⟩ : ∃ VS,VS = AV.cX [.sl 1 sg.length (sg.map aw) .any,.v (.int .i64 se),.sl 5 st.length X .any,.sl 1 sc.length (sc.map aw) .any,.sl 1 si.length (si.map aw) .any]:=⟨_,rfl⟩;obtain ⟨VC,qK⟩ : ∃ VC,VC = AV.cX [.sl 1 cg.length (cg.map aw) .any,.v (.int .i64 ce),.v (.int .i64 cs),.sl 5 cp.length CP .any,.v (.bool ch),.v (.int .u64 qd.key),.sl 1 qd.parent.length (qd.parent.map aw) .any,.sl 2 qd.steps.length CS .any,.sl 1 cc.length (cc.map aw) .any,.sl 1 cm.length (cm.map aw) .any]:=⟨_,rfl⟩;refine bY 2 3 (by decide) (by decide) (by decide) ?_;intro K hK;refine jM ?_;intro o1 q1 o2 q2 o3 q3;obtain ⟨e3,r1,r2,r3⟩:=AS.oF s q1 q2 q3 [.v (.slice none 0 0),.v (.int .i64 0),.v (.slice none 0 0),.v (.slice none 0 0),.v (.slice none 0 0)];rw [e3];refine hK _ _ o1 o2 _ _ rfl rfl r1 r2 ?_;clear hK K q1 q2 q3 e3 r1 r2;refine jK (ye _) ?_;rintro s1 rfl;refine wK fun K0 Jd=>?_;refine jB (show ((0 : Int) != 0) = false from rfl) ?_;refine jF ?_;refine ad ?_;refine Jd _ _ ?_;clear Jd K0;have e4 : ((cp.length : Int) == 0) = decide (cp.length = 0):=by
   rw [Bool.eq_iff_iff,beq_iff_eq,decide_eq_true_iff];omega
  have hN2 : (decide (cp.length = 0) || cp.any oL) = N:=hN;obtain ⟨b0,YK⟩ : ∃ b,b = decide (cp.length = 0):=⟨_,rfl⟩;rw [← YK] at e4 hN2;refine jB @e4 ?_;refine (fun (k : ∀ (E : Env) (s5 : AS),s.set o3 [.v (.slice none 0 0),.v (.int .i64 0),.v (.slice none 0 0),.v (.slice none 0 0),.v (.slice none 0 0)] = s5→E 2 = VS→E 3 = VC→E 4 = .ptr o3 0→E 7 = .sl 5 FT.length XF .any→E 8 = .sl 1 FL.length FC .any→E 10 = .v (.bool b0)→_)=>k _ _ rfl (by rw [I0]; exact (by simp only [aG,Nc,↓reduceIte])) (by rw [qK]; exact (by simp only [aG,Nc,↓reduceIte])) (by simp only [aG,Nc,↓reduceIte]) (by simp only [aG,Nc,↓reduceIte]) (by simp only [aG,Nc,↓reduceIte]) (by simp only [aG,Nc,↓reduceIte])) ?_;intro E sZ hsZ g2 g3 g4 g7 g8 g10;refine wK fun K1 tQ=>?_;refine jA ?_;refine ag ?_;refine aH (fun E s6=>∃ (i : Nat) (b : Bool),i≤cp.length∧b = (b0 || (cp.take i).any oL)∧E 11 = .v (.int .i64 i)∧E 10 = .v (.bool b)∧s6 = sZ∧E 2 = VS∧E 3 = VC∧E 4 = .ptr o3 0∧E 7 = .sl 5 FT.length XF .any∧E 8 = .sl 1 FL.length FC .any)
   (fun E _=>match E 11 with | .v (.int _ i)=>cp.length - i.toNat | _=>0) ?_ ?_
  ·exact ⟨0,b0,Nat.zero_le _,by simp,rfl,g10,rfl,g2,g3,g4,g7,g8⟩
  ·clear g2 g3 g4 g7 g8 g10;rintro E1 s6 ⟨i,b,hi,hb,g11,g10,rfl,g2,g3,g4,g7,g8⟩ -
   refine wK fun K2 aX=>?_;by_cases aO : i < cp.length
   ·refine jB (Ai @g11 (Ai @g3 (Ai @qK (Ai @af (decide_eq_true aO))))) ?_;refine jE ?_;refine ad ?_;refine aX _ _ ?_;clear aX K2;refine wK fun K3 bB=>?_;refine ag ?_;have bK : (0 : Int)≤((i : Nat) : Int):=(by omega);have gA:=fU i aO;have il : (cp.take (i + 1)).any oL = ((cp.take i).any oL || oL cp[i]):=by
     rw [List.take_succ_eq_append_getElem aO,List.any_append];simp
    generalize cp[i] = p at *
    obtain ⟨pk,pl,pn,py,pi⟩:=p;unfold aF.cells ak at gA;simp only at gA;have tS : ∀ (E : Env) (b : Bool),b = (b0 || (cp.take (i + 1)).any oL)→E 11 = .v (.int .i64 i)→E 10 = .v (.bool b)→E 2 = VS→E 3 = VC→E 4 = .ptr o3 0→E 7 = .sl 5 FT.length XF .any→E 8 = .sl 1 FL.length FC .any→K3 E s6:=by
     intro E b hb GN g10 g2 g3 g4 g7 g8;refine bB _ _ ?_;clear bB K3;refine jD (Ai @GN (aQ i (by omega))) ?_;refine ⟨⟨i + 1,b,aO,hb,rfl,g10,rfl,g2,g3,g4,g7,g8⟩,?_⟩;simp only [g11,aG,↓reduceIte];omega
    clear bB;rw [il,← Bool.or_assoc,← hb] at tS;cases b with
    | true =>
     refine jD @g10 ?_;exact tS _ true (by simp) g11 rfl g2 g3 g4 g7 g8
    | false =>
     by_cases hk : pk = 1
     ·refine jD (Ai @g10 (Ai @g3 (Ai @qK (Ai @g11 (Ai @bK (Ai @aO (Ai @af (Ai @gA (cC hk))))))))) ?_;exact tS _ false (by simp [oL,hk]) g11 rfl g2 g3 g4 g7 g8
     ·refine jD (Ai @g10 (Ai @g3 (Ai @qK (Ai @g11 (Ai @bK (Ai @aO (Ai @af (Ai @gA (bF hk))))))))) ?_;exact tS _ true (by simp [oL,hk]) g11 rfl g2 g3 g4 g7 g8
   ·refine jB (Ai @g11 (Ai @g3 (Ai @qK (Ai @af (decide_eq_false aO))))) ?_;refine jF ?_;refine aB ?_;simp only [av,aq,if_true];refine tQ _ _ ?_;clear tQ aX K2 K1;obtain rfl : i = cp.length:=(by omega);rw [List.take_length,hN2] at hb;rw [hb] at g10;clear hb g11 hi aO;subst hsZ;refine wK fun K1 tQ=>?_;have hJ : ¬ (N = true∧ch = false)→∀ (E : Env),E 2 = VS→E 3 = VC→E 4 = .ptr o3 0→E 7 = .sl 5 FT.length XF .any→E 8 = .sl 1 FL.length FC .any→K1 E (s.set o3 [.v (.slice none 0 0),.v (.int .i64 0),.v (.slice none 0 0),.v (.slice none 0 0),.v (.slice none 0 0)]):=by
     intro hn E g2 g3 g4 g7 g8;refine tQ _ _ ?_;clear tQ K1;rw [if_neg hn] at sf;refine wK fun K2 aX=>?_;have gC : ∀ (E : Env) (Tr : List aa),NT = (NS Tr,FL,0)→E 7 = .sl 5 Tr.length (au aa.cells Tr) .any→E 2 = VS→E 3 = VC→E 4 = .ptr o3 0→E 8 = .sl 1 FL.length FC .any→K2 E (s.set o3 [.v (.slice none 0 0),.v (.int .i64 0),.v (.slice none 0 0),.v (.slice none 0 0),.v (.slice none 0 0)]):=by
      intro E Tr hT g7 g2 g3 g4 g8;refine aX _ _ ?_;clear aX K2;have hcT:=ME Tr;rw [hT];have Uv : jn .i64 se 1 = se + 1:=gF (by omega);have nF:=bz (n:=si.length + CT.length) (by omega);have qz:=bz (n:=D1.length + cc.length) (by omega);generalize au aa.cells Tr = XT at *
      refine aZ T.mixed [4,6] (by kernel_rfl) ?_;intro K hK;refine jN (Ai @g2 (Ai @I0 (Ai @g3 @qK))) ?_;refine ae (Rt _) ?_;rintro r s3 ⟨rfl,rfl⟩;refine jN (Ai @g2 (Ai @I0 @nF)) ?_;refine ae (vE _) ?_;rintro r s4 ⟨rfl,rfl⟩;refine jR hK ?_;clear hK K;refine aZ T.mixed [13,17] (by kernel_rfl) ?_;intro K hK;refine jN (Ai @g2 (Ai @I0 (Ai @g3 (Ai @qK (Ai @g4 (Ai @g7 (Ai @g8 (Ai @Uv @qz)))))))) ?_;refine ae (vC _) ?_;rintro r s5 ⟨rfl,rfl⟩;refine jV (Ai @g2 (Ai @I0 (Ai @g3 (Ai @qK (Ai @g4 (Ai @g7 (Ai @g8 (Ai @Uv @AS.aj)))))))) hK ?_;clear hK K;simp only;rw [hcT];refine bo ?_;refine cY (o:=o3) (off:=0) g4 (AS.aj _ _ _) (by rw [T.Bn]; decide) (by simp only [↓DN,Qa,Qb,Qc,Qd,Qe,Qf,Qg,Qh,reduceCtorEq,↓reduceIte,Na,Nb,Nc,Nk,Nf,Ng,Nh,Za,Zb,Zc,TT]; rfl) ?_;refine ⟨_,s,AV.eD (AV.fR (.cons (AV.aL.refl _) (.cons (AV.aL.refl _) (.cons (AV.aL.refl _) (.cons AV.db (.cons AV.db .nil)))))) (AV.aL.refl _) (AV.aL.refl _),AS.bg (AS.le.refl _) r3 _,?_,rfl⟩;simp only [aG,g8,hFC,Nc,↓reduceIte]
     cases ch with
     | false =>
      refine jB (Ai @g3 @qK) ?_;refine jF ?_;refine ad ?_;exact gC _ FT (by simpa using sf) (by rw [hXF]; exact g7) g2 g3 g4 g8
     | true =>
      clear hn;rw [if_pos rfl] at sf;refine jB (Ai @g3 @qK) ?_;refine jE ?_;refine jS (Ai @g3 (Ai @qK (Ai @g7 @g8))) fun K hK=>?_;refine ae (MG rfl _) ?_;rintro r s2 ⟨rfl,rfl⟩;refine jR hK ?_;clear hK K;by_cases hA0 : A.2 = 0
      ·rw [if_neg (fun k=>k hA0)] at sf;refine jB (cC hA0) ?_;refine jF ?_;refine ad ?_;exact gC _ A.1 sf rfl g2 g3 g4 g8
      ·rw [if_pos hA0] at sf;refine jB (bF hA0) ?_;refine jE ?_;refine jB (Ai @g4 @AS.aj) ?_;rw [sf];refine bo ?_;refine cY (o:=o3) (off:=0) g4 (AS.aj _ _ _) (by rw [T.Bn]; decide) (by simp only [↓DN,Qa,Qb,Qc,Qd,Qe,Qf,Qg,Qh,reduceCtorEq,↓reduceIte,Na,Nb,Nc,Nk,Nf,Ng,Nh,Za,Zb,Zc,TT]; rfl) ?_;exact ⟨_,s,AV.eD dN AV.aP (AV.aL.refl _),AS.bg (AS.le.refl _) r3 _,rfl,rfl⟩
    clear tQ;cases N with
    | false =>
     refine jB @g10 ?_;refine jF ?_;refine ad ?_;exact hJ (by simp) _ g2 g3 g4 g7 g8
    | true =>
     cases ch with
     | true =>
      refine jB (Ai @g10 (Ai @g3 @qK)) ?_;refine jF ?_;refine ad ?_;exact hJ (by simp) _ g2 g3 g4 g7 g8
     | false =>
      rw [if_pos ⟨rfl,rfl⟩] at sf;refine jB (Ai @g10 (Ai @g3 @qK)) ?_;refine jE ?_;refine jB (Ai @g4 @AS.aj) ?_;rw [sf];refine bo ?_;refine cY (o:=o3) (off:=0) g4 (AS.aj _ _ _) (by rw [T.Bn]; decide) (by simp only [↓DN,Qa,Qb,Qc,Qd,Qe,Qf,Qg,Qh,reduceCtorEq,↓reduceIte,Na,Nb,Nc,Nk,Nf,Ng,Nh,Za,Zb,Zc,TT]; rfl) ?_;exact ⟨_,s,AV.eD dN AV.aP (AV.aL.refl _),AS.bg (AS.le.refl _) r3 _,rfl,rfl⟩
end Go.Proofs.YtcjifoccjlpapaaGreatDoor
