/- Contracts of functions, each walked once; each theorem states its conditions. -/
import Derived.Test.YtbiefppedlodiaaGreatDoorAMp6
import Derived.Test.YtbiefppedlodiaaGreatDoorW1
import Derived.Test.YtbiefppedlodiaaGreatDoorW9
import Derived.Test.YtbiefppedlodiaaGreatDoorW7
import Derived.Test.YtbiefppedlodiaaGreatDoorW5
import Derived.Test.YtbiefppedlodiaaGreatDoorW2
import Derived.Test.YtbiefppedlodiaaGreatDoorW3
import Derived.Test.YtbiefppedlodiaaGreatDoorW8
import Derived.Test.YtbiefppedlodiaaGreatDoorAMp7
import Derived.Test.YtbiefppedlodiaaGreatDoorW6
import Derived.Test.YtbiefppedlodiaaGreatDoorRows
import Derived.ProofKit
import Derived.LaidMore
import Derived.MakeChecks
import Derived.OpenShut
open Char renaming ofNat → Ckz
set_option linter.unusedSimpArgs false
set_option linter.unusedVariables false
open Nat renaming reduceLT → Na, reduceLeDiff → Nb, reduceEqDiff → Nc, reduceAdd → Nk, reduceMul → Nf, reducePow → Ng, reduceSub → Nh, reduceBEq → Nz
open Int renaming reduceLT → Za, reduceLE → Zb, reduceToNat → Zc
open And renaming intro → Ai
open Go.AM renaming ashift → Qa, aconv → Qb, aindexAddr → Qc, aindex → Qd, aslice → Qe, abuiltin → Qf, awp_reg_seq → wS, awp_reg_end → wE, awp_seq_k → wK, awp_cond_k → wC
open Go.AM.AV renaming cells → Qg, one → Qh
set_option maxRecDepth 100000
set_option maxHeartbeats 8000000
namespace Go.Proofs.YtbiefppedlodiaaGreatDoor
open Go Go.AM Go.Proofs Tryz
variable {Γ : Nat→List AV}
def yY : List UInt8:=[108,101,97,102]
def uZ (d : List UInt8) : Nat:=de (Kdf.derive d yY)
def kB (d : List UInt8) : Nat:=3 ^ uZ d % PP
def l9 (t : List ao) (lf : Nat) (fresh : List Int) (i : Nat) : List Int:=bQ t (cC (nodeAt lf (bj t) i) : Nat) fresh
def cK (d : List UInt8) (m : Nat) : List Nat:=(List.range m).map fun i=>nn (cz d (i + 1))
def bT (t : List ao) (lf : Nat) (d ctx : List UInt8) (fresh : List Int) (m : Nat) : List aM:=(List.range m).map fun i=>gH t d ctx i (l9 t lf fresh i)
def rV (d : List UInt8) (kC : List Nat) (i : Nat) : bY:=⟨(kC.getD i 0 : Nat),pW (cz d (i + 1))⟩
def da (lf : Nat) (d : List UInt8) (kC : List Nat) (m : Nat) : List bY:=⟨(2 * lf : Nat),uZ d⟩ :: (List.range m).map (rV d kC)
def pX (t : List ao) (lf : Nat) (d : List UInt8) (fresh : List Int) (m : Nat) : Bool:=(List.range m).all fun i=>stepG d i (l9 t lf fresh i)
structure pY where
 p : bE
 t : List ao
 held : List bY
 Mx : List UInt8
def pY.no : pY:=⟨⟨0,[],[]⟩,[],[],[]⟩
def wh (t : List ao) (lf : Nat) (d : List UInt8) (fresh : List Int) : List ao:=iW t lf (kB d) (cK d (aH lf (bj t)).length) fresh
def gi (t : List ao) (lf : Nat) (d ctx : List UInt8) (fresh : List Int) : pY :=
 ⟨⟨kB d,(nd (wh t lf d fresh) (2 * lf)).parent,bT t lf d ctx fresh (aH lf (bj t)).length⟩,wh t lf d fresh,da lf d (aH lf (bj t)) (aH lf (bj t)).length,cz d ((aH lf (bj t)).length + 1)⟩
def pZ (t : List ao) (leaf : Int) (d ctx : List UInt8) (fresh : List Int) : pY × Int :=
 if oV t leaf≠0 then (pY.no,oV t leaf) else if d.length≠32 then (pY.no,2) else if n6 (kB d) = false then (pY.no,30) else
 if pX t leaf.toNat d fresh (aH leaf.toNat (bj t)).length = false then (pY.no,30) else (gi t leaf.toNat d ctx fresh,0)
theorem AE (d : List UInt8) (i : Nat) : cK d (i + 1) = cK d i ++ [nn (cz d (i + 1))]:=by simp [cK,List.range_succ]
theorem yZ (t : List ao) (lf : Nat) (d ctx : List UInt8) (fresh : List Int) (i : Nat) : bT t lf d ctx fresh (i + 1) = bT t lf d ctx fresh i ++ [gH t d ctx i (l9 t lf fresh i)]:=by simp [bT,List.range_succ]
theorem AF (lf : Nat) (d : List UInt8) (kC : List Nat) (i : Nat) : da lf d kC (i + 1) = da lf d kC i ++ [rV d kC i]:=by simp [da,List.range_succ]
theorem PY (d : List UInt8) : uZ d < 2 ^ 64:=by have:=u6 (Kdf.derive d yY); unfold uZ; omega
def BV (M : pY) (e : Int) : AV:=.eJ [.agg M.p.cells,bA M.t,ke M.held,aj M.Mx .any,.v (.int .i64 e)]
theorem IX {t : List ao} {lf i : Nat} (dS : Fit (bj t)) (pV : lf < bj t) (lT : t.length = 2 * bj t - 1) (hi : i < (aH lf (bj t)).length) : cC (nodeAt lf (bj t) i) < t.length:=by
 obtain ⟨h1,h2,-⟩:=y4 dS pV hi;have:=(BW dS h1 h2).2.2.2.2;omega
theorem My (t : List ao) (leaf : Nat) (keys : List Nat) (fresh : List Int) : ∀ i,(w8 t leaf keys fresh i).2.length≤32
 | 0=>Nat.zero_le _
 | i + 1=>by
  simp only [w8];unfold qH;split
  ·rw [Sha.dQ]; decide
  ·exact Nat.zero_le _
theorem Mz (l : List ao) {k : Nat} (h : k < l.length) (x : ao) : nd (l.set k x) k = x:=by simp [nd,List.getD,h]
theorem Kh (t : List ao) (leaf key : Nat) (keys : List Nat) (fresh : List Int) (h : 2 * leaf < t.length) : (nd (iW t leaf key keys fresh) (2 * leaf)).parent.length≤32:=by
 unfold iW;simp only;rw [Mz _ (by rw [lJ]; exact h)];exact My ..
theorem Dg (ev : Γ 0 = ew Sha.H0) (ig : Γ 1 = Sha.K.map wV) (hG : Γ 3 = fM.map pg) (t : List ao) (ht : gG t) (MA : t.length≤2 ^ 30) (hw : ∀ n ∈ t,p5 n) (leaf : Int)
  (d ctx : List UInt8) (hd : d.length≤2 ^ 36) (Dh : ctx.length≤2 ^ 30) (fresh : List Int) (hf : fresh.length≤2 ^ 40) (s : AS) :
  ah prog Γ 10 [bA t,.v (.int .i64 leaf),aj d .any,aj ctx .any,aR fresh .any] s (fun r s'=>r = BV (pZ t leaf d ctx fresh).1 (pZ t leaf d ctx fresh).2∧s' = s):=by
 refine vZ func10 rfl ntmps10 results10 (by simp) ?_;have MB:=fun s=>wj (Γ:=Γ) hG t ht leaf s;have fZ:=fun s=>iD (Γ:=Γ) hG t ht s;have TM:=fun n s=>ca (Γ:=Γ) n s;obtain ⟨R,hR⟩ : ∃ R,R = pZ t leaf d ctx fresh:=⟨_,rfl⟩;rw [← hR];obtain ⟨R1,R2⟩:=R;simp only;unfold pZ at hR;have kN : ∀ (sC : Nat) (e : Int),R1 = pY.no→R2 = e→∀ (E : Env) (s5 : AS),s.le s5→s5.aq sC = some [.v (.int .u64 0),.v (.slice none 0 0),.v (.slice none 0 0)]→E 10 = .ptr sC 0→E 11 = .v (.slice none 0 0)→E 12 = .v (.slice none 0 0)→E 13 = .v (.slice none 0 0)→E 14 = .v (.int .i64 e) →
   cn prog (#[ResultVar.cell 10 32,ResultVar.tmp 11,ResultVar.tmp 12,ResultVar.tmp 13,ResultVar.tmp 14] : Array ResultVar).toList (fun r s'=>r = BV R1 R2∧s' = s) .ret E s5:=by
  intro sC e h1 h2 E s5 hle ho f10 f11 f12 f13 f14;subst h1 h2;refine oJ (o:=sC) (off:=0) f10 ho (by rw [T.Li]; decide) (by simp only [↓DN,Qa,Qb,Qc,Qd,Qe,Qf,Qg,Qh,reduceCtorEq,↓reduceIte,Na,Nb,Nc,Nk,Nf,Ng,Nh,Za,Zb,Zc,TT]; rfl) ?_;rw [f11,f12,f13,f14];exact ⟨_,s,AV.BX (.cons (AV.j9 (.cons (AV.aA.refl _) (.cons AV.aJ (.cons AV.aJ .nil)))) (.cons AV.aJ (.cons AV.aJ (.cons AV.aJ (.cons (AV.aA.refl _) .nil))))),hle,rfl,rfl⟩
 unfold bA at MB fZ ⊢;unfold aR aj;refine dv ?_;intro K1 gE;refine jT fun K hK=>?_;intro sC Vp;refine hK _ _ (gE _ _ ?_);clear hK K gE K1;have RY:=AS.aa s sC [.v (.int .u64 0),.v (.slice none 0 0),.v (.slice none 0 0)];have hle:=AS.aB (AS.le.refl s) Vp [.v (.int .u64 0),.v (.slice none 0 0),.v (.slice none 0 0)];generalize s.set sC [.v (.int .u64 0),.v (.slice none 0 0),.v (.slice none 0 0)] = s1 at *
 refine dv ?_;intro K1 gE;refine jK (MB _) ?_;rintro s2 rfl;by_cases he : oV t leaf = 0
 ·have e0 : (oV t leaf != 0) = false:=(by simp [he]);rw [if_neg (by rw [he]; simp)] at hR;refine jB @e0 ?_;refine jF ?_;refine ag ?_;refine gE _ _ ?_;clear gE K1;obtain ⟨hr,hm⟩:=qI.1 he;obtain ⟨lf,rfl⟩:=Int.eq_ofNat_of_zero_le hm.1;obtain ⟨dS,lT⟩ : Fit (bj t)∧t.length = 2 * bj t - 1:=by
   rcases dn (t:=t) with h | h
   ·exact absurd h hr.1
   ·exact h
  have oW:=dS.le;have pV : lf < bj t:=by
   have:=hm.2.1;omega
  refine dv ?_;intro K1 gE;by_cases l6 : d.length = 32
  ·have e2 : ((d.length : Int) != 32) = false:=(by rw [l6]; rfl);rw [if_neg (fun k=>k l6)] at hR;refine jB @e2 ?_;refine jF ?_;refine ag ?_;refine gE _ _ ?_;clear gE K1;have TP:=fun s=>kO (Γ:=Γ) ev ig d yY hd (by decide) s;have np:=fun s=>n8 (Γ:=Γ) ev ig (Kdf.derive d yY) (by rw [kP]; decide) s;have MC:=fun s=>fe (Γ:=Γ) (uZ d) (PY d) s;have IY : ∀ s,ah prog Γ 41 [aj (Kdf.derive d yY) .any] s (fun r s'=>r = .v (.int .u64 (uZ d : Nat))∧s' = s):=np;have IZ : ∀ s,ah prog Γ 43 [.v (.int .u64 (uZ d : Nat))] s (fun r s'=>r = .v (.int .u64 (kB d : Nat))∧s' = s):=MC;clear np MC;have HC:=fun s=>TM (kB d) s;generalize Kdf.derive d yY = dl at *
   obtain ⟨ok,ie⟩ : ∃ ok,ok = uZ d:=⟨_,rfl⟩;obtain ⟨op,gk⟩ : ∃ op,op = kB d:=⟨_,rfl⟩;rw [← ie] at IY IZ;rw [← gk] at IZ HC hR;unfold aj yY at TP;unfold aj at IY;refine eO ?_;intro K hK;refine jO ?_;refine ad (TP _) ?_;rintro r s3 ⟨rfl,rfl⟩;refine jM ?_;refine ad (IY _) ?_;rintro r s4 ⟨rfl,rfl⟩;refine jR hK ?_;clear hK K;refine eO ?_;intro K hK;refine jO ?_;refine ad (IZ _) ?_;rintro r s5 ⟨rfl,rfl⟩;refine jM ?_;intro Eb q17;refine hK _ _ ?_;clear hK K;have dp : Eb≠sC:=(fun e=>by subst e; rw [RY] at q17; cases q17);have k17 : s5.aq Eb = none:=q17;have s17:=none_le hle k17;have RZ:=(AS.ae s5 (Ne.symm dp) [.v (.int .u64 op),.v (.slice none 0 0),.v (.slice none 0 0)]).trans RY;have PZ:=AS.aa s5 Eb [.v (.int .u64 op),.v (.slice none 0 0),.v (.slice none 0 0)];have Zt:=AS.aB hle s17 [.v (.int .u64 op),.v (.slice none 0 0),.v (.slice none 0 0)];generalize s5.set Eb [.v (.int .u64 op),.v (.slice none 0 0),.v (.slice none 0 0)] = s6 at *
   clear RY hle q17 k17;refine dv ?_;intro K1 gE;obtain ⟨q,hq⟩ : ∃ q,q = n6 op:=⟨_,rfl⟩;have Mv : (decide (2≤(op : Int)) && decide ((op : Int)≤2305843009213693949)) = q:=hq.symm;rw [Mv] at HC;rw [← hq] at hR;refine jS @PZ fun K hK=>?_;refine ad (HC _) ?_;rintro r s7 ⟨rfl,rfl⟩;cases q with
   | false =>
    rw [if_pos rfl] at hR;refine jR hK ?_;clear hK K;refine jE ?_;refine jB @RZ ?_;refine a7 ?_;try simp only [az,aw]
    exact kN sC 30 (congrArg (·.1) hR) (congrArg (·.2) hR) _ _ (u7 Zt Vp _) (AS.aa _ _ _) rfl rfl rfl rfl rfl
   | true =>
    rw [if_neg (by decide)] at hR;refine jR hK ?_;clear hK K;refine jF ?_;refine ag ?_;refine gE _ _ ?_;clear gE K1 HC IZ IY TP;rw [if_pos hr] at fZ;have rm:=fun s=>kM (Γ:=Γ) hG lf (bj t) dS pV s;have GM:=fun s=>iE (Γ:=Γ) hG lf (bj t) dS pV s;have HD : (bw (cR lf (bj t))).length = (aH lf (bj t)).length:=(by simp [cJ,cR]);have Gw:=cJ (aH lf (bj t));have GF:=ni dS pV;unfold aR at rm GM;rw [Gw] at rm;rw [HD] at GM;have xN : ∀ a b : AV,lW 2 [a,b] = [a,b]:=fun _ _=>rfl;refine eO ?_;intro K hK;refine jO ?_;refine ad (fZ _) ?_;rintro r s8 ⟨rfl,rfl⟩;refine jR hK ?_;clear hK K;refine eO ?_;intro K hK;refine jP (Ai (eG lf (by omega)) @xN) ?_;refine hK _ _ ?_;clear hK K;refine eO ?_;intro K hK;refine jO ?_;refine ad (GM _) ?_;rintro r s9 ⟨rfl,rfl⟩;refine jR hK ?_;clear hK K;refine eO ?_;intro K hK;refine jO ?_;refine hK _ _ ?_;clear hK K;refine dv ?_;intro K1 gE;refine jK (rm _) ?_;rintro OS rfl;have TQ : ∀ i,i < (aH lf (bj t)).length→(List.take 1 (List.drop i ((bw (cR lf (bj t))).map aV)))[0]? = some (AV.v (.int .i64 (cC (nodeAt lf (bj t) i) : Nat))):=by
     intro i hi;simp [List.getElem?_take,bw,cR,hi,aV]
    have hUg : ∀ i,i < (aH lf (bj t)).length→(List.take 1 (List.drop i ((bw (aH lf (bj t))).map aV)))[0]? = some (AV.v (.int .i64 ((aH lf (bj t)).getD i 0 : Nat))):=by
     intro i hi;simp [List.getElem?_take,bw,hi,aV]
    have eN:=fun i (hi : i < (aH lf (bj t)).length) s=>Di (Γ:=Γ) ev ig hG t ht hr i (by omega) (cC (nodeAt lf (bj t) i)) (IX dS pV lT hi) d ctx hd Dh fresh hf s;have mR:=fun i (hi : i < (aH lf (bj t)).length + 1) s=>p6 (Γ:=Γ) ev ig d hd i (by omega) s;have MD:=fun key keys hk s=>tG (Γ:=Γ) ev ig hG t ht MA hw hr lf hm key keys hk fresh hf s;unfold bA aj aR at eN;unfold aj at mR;obtain ⟨H0,hH0⟩ : ∃ H0,H0 = AV.sl 2 1 [.v (.int .i64 (2 * lf : Nat)),.v (.int .u64 ok)] .new:=⟨_,rfl⟩;have xiq : ∀ i,l9 t lf fresh i = bQ t (cC (nodeAt lf (bj t) i) : Nat) fresh:=fun _=>rfl;have TR : ∀ i,(hi : i < (aH lf (bj t)).length)→∀ s,ah prog Γ 48 [.sl 5 t.length (aK ao.cells t) .any,.v (.int .i64 i),.v (.int .i64 (cC (nodeAt lf (bj t) i) : Nat)),.sl 1 d.length (d.map ai) .any,.sl 1 ctx.length (ctx.map ai) .any,.sl 1 fresh.length (fresh.map aV) .any] s
      (fun r s'=>r = .eJ [.agg (if stepG d i (l9 t lf fresh i) = true then gH t d ctx i (l9 t lf fresh i) else ⟨0,[]⟩).cells,.v (.int .i64 (if stepG d i (l9 t lf fresh i) = true then 0 else 30))]∧s' = s):=eN
    clear eN;rw [← hH0];rw [Int.toNat_natCast] at hR;generalize hXe : aK ao.cells t = X at *
    generalize Zu : aH lf (bj t) = P at *
    generalize bw (cR lf (bj t)) = SD at *
    generalize bw P = U at *
    refine al ?_;refine aE (fun E s2=>∃ (i : Nat) (zP zK zH : AV),i≤P.length∧(∀ j,j < i→stepG d j (l9 t lf fresh j) = true)∧E 63 = .v (.int .i64 i)∧E 62 = .v (.int .i64 P.length)∧E 61 = .sl 1 P.length (U.map aV) .any∧E 0 = .sl 5 t.length X .any∧E 1 = .v (.int .i64 lf)∧E 2 = .sl 1 d.length (d.map ai) .any∧E 3 = .sl 1 ctx.length (ctx.map ai) .any∧E 4 = .sl 1 fresh.length (fresh.map aV) .any ∧
      E 10 = .ptr sC 0∧E 17 = .ptr Eb 0∧E 20 = .sl 1 P.length (SD.map aV) .any∧E 21 = zK∧E 19 = zH∧s2.aq sC = some [.v (.int .u64 0),.v (.slice none 0 0),.v (.slice none 0 0)]∧s2.aq Eb = some [.v (.int .u64 op),.v (.slice none 0 0),zP]∧gr 2 s s2 zP i (aK aM.cells (bT t lf d ctx fresh i)) bZ 0 []∧gr 1 s s2 zK i ((cK d i).map kf) bZ 0 []∧gr 2 s s2 zH (i + 1) (aK bY.cells (da lf d P i)) H0 1 [.v (.int .i64 (2 * lf : Nat)),.v (.int .u64 ok)] ∧
      (∀ t,dC zP = some t→dC zK≠some t)∧(∀ t,dC zP = some t→dC zH≠some t)∧(∀ t,dC zK = some t→dC zH≠some t)∧s.le s2)
     (fun E _=>match E 63 with | .v (.int _ i)=>P.length - i.toNat | _=>0) ?_ ?_
    ·exact ⟨0,bZ,bZ,H0,Nat.zero_le _,fun j h=>absurd h (Nat.not_lt_zero _),rfl,rfl,rfl,rfl,rfl,rfl,rfl,rfl,rfl,rfl,rfl,rfl,rfl,RZ,PZ,.inl ⟨rfl,rfl,rfl⟩,.inl ⟨rfl,rfl,rfl⟩,
      .inl ⟨rfl,rfl,by rw [ie]; rfl⟩,(fun t h=>by cases h),(fun t h=>by cases h),(fun t h=>by cases h),Zt⟩
    ·clear RZ PZ Zt;rintro E1 P0 ⟨i,zP,zK,zH,hi,Fo,Vq,ME,TU,g0,g1,g2,g3,g4,g10,g17,g20,g21,g19,RZ,PZ,bP,bK,bH,dPK,dPH,dKH,hle⟩ -
     by_cases bc : i < P.length
     ·have bS : ((i : Nat) : Int) < ((P.length : Nat) : Int):=(by omega);have dr : (0 : Int)≤((i : Nat) : Int):=(by omega);have JI:=TQ i bc;have hup:=hUg i bc;have c1:=fun s=>TR i bc s;have c2:=fun s=>mR i (by omega) s;have uu:=qJ d i;have c3:=fun s=>mS (Γ:=Γ) ev ig (cz d (i + 1)) (by omega) s;refine jB (Ai @ME (Ai @Vq (decide_eq_true bS))) ?_;refine wK fun K2 aW=>?_;refine jE ?_;refine ag ?_;refine aW _ _ ?_;clear aW K2;refine wK fun K3 bC=>?_;refine al ?_;refine jB (Ai @TU (Ai @Vq (Ai @bS (Ai @dr @hup)))) ?_;cases MF : stepG d i (l9 t lf fresh i) with
      | false =>
       have hRb : R1 = pY.no∧R2 = 30:=by
        have hb : pX t lf d fresh P.length = false:=by
         unfold pX;rw [List.all_eq_false];exact ⟨i,List.mem_range.2 bc,by rw [MF]; decide⟩
        rw [if_pos hb] at hR;exact ⟨congrArg (·.1) hR,congrArg (·.2) hR⟩
       simp only [MF,Bool.false_eq_true,if_false,aM.cells] at c1;refine aU 24 (by decide) ?_;intro K4 ei;refine jN (Ai @g20 (Ai @g0 (Ai @g2 (Ai @g3 (Ai @g4 (Ai @bS (Ai @dr @JI))))))) ?_;refine ad (c1 _) ?_;rintro r s12 ⟨rfl,rfl⟩;refine jM ?_;intro o2 q2;refine ei _ _ o2 _ rfl q2 ?_;clear ei K4 q2;refine wK fun K4 ei=>?_;have e30 : ((30 : Int) != 0) = true:=rfl;refine jB @e30 ?_;refine jE ?_;refine jB (Ai @g10 @RZ) ?_;refine a7 ?_;try simp only [az,aw]
       exact kN sC 30 hRb.1 hRb.2 _ _ (u7 hle Vp _) (AS.aa _ _ _) g10 rfl rfl rfl rfl
      | true =>
       simp only [MF,if_true] at c1;have R3 : ((0 : Int) != 0) = false:=rfl;have iQ:=yZ t lf d ctx fresh i;have oR:=AE d i;have OT:=AF lf d P i;have hSk : (gH t d ctx i (l9 t lf fresh i)).key = nn (cz d (i + 1)):=rfl;have hSh : rV d P i = ⟨(P.getD i 0 : Nat),pW (cz d (i + 1))⟩:=rfl;rw [hSh] at OT;rw [← hSk] at oR;generalize gH t d ctx i (l9 t lf fresh i) = S at *
       generalize pW (cz d (i + 1)) = ky at *
       generalize cz d (i + 1) = sc at *
       obtain ⟨sk,sl⟩:=S;simp only [aM.cells] at c1;simp only at oR;have hSc : aK aM.cells [⟨sk,sl⟩] = [.v (.int .u64 (sk : Nat)),.sl 2 sl.length (aK aY.cells sl) .any]:=rfl;generalize aK aY.cells sl = SL at *
       unfold aj at c3;refine aU 24 (by decide) ?_;intro K4 ei;refine jN (Ai @g20 (Ai @g0 (Ai @g2 (Ai @g3 (Ai @g4 (Ai @bS (Ai @dr @JI))))))) ?_;refine ad (c1 _) ?_;rintro r s12 ⟨rfl,rfl⟩;refine jM ?_;intro o2 q2;refine ei _ _ o2 _ rfl q2 ?_;clear ei K4 q2;refine wK fun K4 ei=>?_;refine jB @R3 ?_;refine jF ?_;refine ag ?_;refine ei _ _ ?_;clear ei K4;have Zv : dC H0 = none:=(by rw [hH0]; rfl);have R4 : ∀ (L : List Nat) (x : Nat),(L ++ [x]).map kf = L.map kf ++ [.v (.int .u64 (x : Nat))]:=(fun L x=>by simp [kf]);obtain ⟨F,hF⟩ : ∃ F : Env→Prop,F = fun E=>E 63 = .v (.int .i64 i)∧E 62 = .v (.int .i64 P.length)∧E 61 = .sl 1 P.length (U.map aV) .any∧E 0 = .sl 5 t.length X .any∧E 1 = .v (.int .i64 lf)∧E 2 = .sl 1 d.length (d.map ai) .any∧E 3 = .sl 1 ctx.length (ctx.map ai) .any∧E 4 = .sl 1 fresh.length (fresh.map aV) .any∧E 10 = .ptr sC 0∧E 17 = .ptr Eb 0∧E 20 = .sl 1 P.length (SD.map aV) .any:=⟨_,rfl⟩;have hJ7 : ∀ (E : Env) (s7 : AS) (zP zK zH : AV),F E→E 21 = zK→E 19 = zH→s7.aq sC = some [.v (.int .u64 0),.v (.slice none 0 0),.v (.slice none 0 0)]→s7.aq Eb = some [.v (.int .u64 op),.v (.slice none 0 0),zP]→gr 2 s s7 zP (i + 1) (aK aM.cells (bT t lf d ctx fresh (i + 1))) bZ 0 []→gr 1 s s7 zK (i + 1) ((cK d (i + 1)).map kf) bZ 0 []→gr 2 s s7 zH (i + 1 + 1) (aK bY.cells (da lf d P (i + 1))) H0 1 [.v (.int .i64 (2 * lf : Nat)),.v (.int .u64 ok)] →
         (∀ t,dC zP = some t→dC zK≠some t)→(∀ t,dC zP = some t→dC zH≠some t)→(∀ t,dC zK = some t→dC zH≠some t)→s.le s7→K3 E s7:=by
        intro E s7 zP zK zH fF f21 f19 HE HF P1 TV TW x1 x2 x3 P2;rw [hF] at fF;obtain ⟨f63,f62,f61,f0,f1,f2,f3,f4,f10,f17,f20⟩:=fF;refine bC _ _ ?_;clear bC K3;refine jD (Ai @f63 (bt i (by omega))) ?_;refine ⟨⟨i + 1,zP,zK,zH,bc,?_,rfl,f62,f61,f0,f1,f2,f3,f4,f10,f17,f20,f21,f19,HE,HF,P1,TV,TW,x1,x2,x3,P2⟩,?_⟩
        ·intro j hj;by_cases e : j = i
         ·subst e;exact MF
         ·exact Fo j (by omega)
        ·simp only [Vq,aF,↓reduceIte];omega
       clear bC;refine wK fun K5 lU=>?_;have hJ5 : ∀ (E : Env) (s5 : AS) (zP : AV),F E→E 22 = .v (.int .i64 i)→E 23 = .v (.int .i64 (P.getD i 0 : Nat))→E 24 = .dq [.v (.int .u64 sk),.sl 2 sl.length SL .any]→E 21 = zK→E 19 = zH→s5.aq sC = some [.v (.int .u64 0),.v (.slice none 0 0),.v (.slice none 0 0)]→s5.aq Eb = some [.v (.int .u64 op),.v (.slice none 0 0),zP]→gr 2 s s5 zP (i + 1) (aK aM.cells (bT t lf d ctx fresh (i + 1))) bZ 0 []→gr 1 s s5 zK i ((cK d i).map kf) bZ 0 []→gr 2 s s5 zH (i + 1) (aK bY.cells (da lf d P i)) H0 1 [.v (.int .i64 (2 * lf : Nat)),.v (.int .u64 ok)] →
         (∀ t,dC zP = some t→dC zK≠some t)→(∀ t,dC zP = some t→dC zH≠some t)→(∀ t,dC zK = some t→dC zH≠some t)→s.le s5→K5 E s5:=by
        intro E s5 zP fF f22 f23 f24 f21 f19 HE HF P1 TV TW x1 x2 x3 P2;refine lU _ _ ?_;clear lU K5;clear bP bK bH;refine wK fun K6 kn=>?_;have Vr : ∀ (E : Env) (s6 : AS) (zK : AV),F E→E 22 = .v (.int .i64 i)→E 23 = .v (.int .i64 (P.getD i 0 : Nat))→E 21 = zK→E 19 = zH→s6.aq sC = some [.v (.int .u64 0),.v (.slice none 0 0),.v (.slice none 0 0)]→s6.aq Eb = some [.v (.int .u64 op),.v (.slice none 0 0),zP]→gr 2 s s6 zP (i + 1) (aK aM.cells (bT t lf d ctx fresh (i + 1))) bZ 0 []→gr 1 s s6 zK (i + 1) ((cK d (i + 1)).map kf) bZ 0 []→gr 2 s s6 zH (i + 1) (aK bY.cells (da lf d P i)) H0 1 [.v (.int .i64 (2 * lf : Nat)),.v (.int .u64 ok)] →
          (∀ t,dC zP = some t→dC zK≠some t)→(∀ t,dC zP = some t→dC zH≠some t)→(∀ t,dC zK = some t→dC zH≠some t)→s.le s6→K6 E s6:=by
         intro E s6 zK fF f22 f23 f21 f19 HE HF P1 TV TW x1 x2 x3 P2;refine kn _ _ ?_;clear kn K6;have Zw:=fF;rw [hF] at Zw;obtain ⟨f63,f62,f61,f0,f1,f2,f3,f4,f10,f17,f20⟩:=Zw;rcases TW with ⟨rfl,ic,OJ⟩ | ⟨tk,ek,rfl,OU,gM⟩
         ·rw [hH0] at f19;refine jU (Ai @f2 (Ai @f22 (Ai @f19 @f23))) fun K hK=>?_;refine ad (c2 _) ?_;rintro r s8 ⟨rfl,rfl⟩;refine jM ?_;refine ad (c3 _) ?_;rintro r s9 ⟨rfl,rfl⟩;refine jN (Ai @f19 (Ai @f23 @xN)) ?_;intro tk ft;have MG:=bN P2 ft;have fP:=P1.fresh rfl ft;have fK:=TV.fresh rfl ft;refine hK _ _ (hJ7 _ _ zP zK (.sl 2 2 [.v (.int .i64 (2 * lf : Nat)),.v (.int .u64 ok),.v (.int .i64 (P.getD i 0 : Nat)),.v (.int .u64 ky)] (.own tk 0)) (by rw [hF]; exact ⟨f63,f62,f61,f0,f1,f2,f3,f4,f10,f17,f20⟩) f21 rfl HE HF (P1.bo fP) (TV.bo fK) ?_ x1 ?_ ?_ (AS.bG P2 MG 0))
          ·rw [OT,kQ,OJ,show i = 0 by omega];exact gr.new MG (by simp [AS.bo])
          ·intro t h1 h2;simp only [dC,Option.some.injEq] at h2;subst h2;exact fP h1
          ·intro t h1 h2;simp only [dC,Option.some.injEq] at h2;subst h2;exact fK h1
         ·refine jU (Ai @f2 (Ai @f22 (Ai @f19 @f23))) fun K hK=>?_;refine ad (c2 _) ?_;rintro r s8 ⟨rfl,rfl⟩;refine jM ?_;refine ad (c3 _) ?_;rintro r s9 ⟨rfl,rfl⟩;refine jN (Ai @f19 (Ai @f23 (Ai @xN @OU))) ?_;have fP : dC zP≠some tk:=fun q=>x2 _ q rfl;have fK : dC zK≠some tk:=fun q=>x3 _ q rfl;refine ⟨by omega,by omega,hK _ _ (hJ7 _ _ zP zK (.sl 2 (i + 1 + 1) (aK bY.cells (da lf d P i) ++ [.v (.int .i64 (P.getD i 0 : Nat)),.v (.int .u64 ky)]) (.own tk (ek + 1))) (by rw [hF]; exact ⟨f63,f62,f61,f0,f1,f2,f3,f4,f10,f17,f20⟩) f21 rfl HE HF (P1.bo fP) (TV.bo fK) ?_ x1 ?_ ?_ (AS.bG P2 gM (ek + 1)))⟩
          ·rw [OT,kQ];exact gr.new gM (by simp [AS.bo])
          ·intro t h1 h2;simp only [dC,Option.some.injEq] at h2;subst h2;exact fP h1
          ·intro t h1 h2;simp only [dC,Option.some.injEq] at h2;subst h2;exact fK h1
        have Zw:=fF;rw [hF] at Zw;obtain ⟨f63,f62,f61,f0,f1,f2,f3,f4,f10,f17,f20⟩:=Zw;clear hJ7;rcases TV with ⟨rfl,ic,OJ⟩ | ⟨tk,ek,rfl,OU,gM⟩
        ·refine wE fun K hK=>?_;simp only [↓DN,Qa,Qb,Qc,Qd,Qe,Qf,Qg,Qh,reduceCtorEq,↓reduceIte,Na,Nb,Nc,Nk,Nf,Ng,Nh,Za,Zb,Zc,TT,f21,f24,bZ,List.replicate_succ];intro tk ft;have MG:=bN P2 ft;have fP:=P1.fresh rfl ft;have fH:=TW.fresh Zv ft;refine hK _ _ (Vr _ _ (.sl 1 1 [.v (.int .u64 sk)] (.own tk 0)) (by rw [hF]; exact ⟨f63,f62,f61,f0,f1,f2,f3,f4,f10,f17,f20⟩) f22 f23 rfl f19 HE HF (P1.bo fP) ?_ (TW.bo fH) ?_ x2 ?_ (AS.bG P2 MG 0))
         ·rw [oR,R4,OJ,show i = 0 by omega];exact gr.new MG (by simp [AS.bo])
         ·intro t h1 h2;simp only [dC,Option.some.injEq] at h2;subst h2;exact fP h1
         ·intro t h1 h2;simp only [dC,Option.some.injEq] at h1;subst h1;exact fH h2
        ·refine wE fun K hK=>?_;simp only [↓DN,Qa,Qb,Qc,Qd,Qe,Qf,Qg,Qh,reduceCtorEq,↓reduceIte,Na,Nb,Nc,Nk,Nf,Ng,Nh,Za,Zb,Zc,TT,f21,f24,OU,List.replicate_succ];have fP : dC zP≠some tk:=fun q=>x1 _ q rfl;have fH : dC zH≠some tk:=x3 _ rfl;refine ⟨by omega,by omega,hK _ _ (Vr _ _ (.sl 1 (i + 1) ((cK d i).map kf ++ [.v (.int .u64 sk)]) (.own tk (ek + 1))) (by rw [hF]; exact ⟨f63,f62,f61,f0,f1,f2,f3,f4,f10,f17,f20⟩) f22 f23 rfl f19 HE HF (P1.bo fP) ?_ (TW.bo fH) ?_ x2 ?_ (AS.bG P2 gM (ek + 1)))⟩
         ·rw [oR,R4];exact gr.new gM (by simp [AS.bo])
         ·intro t h1 h2;simp only [dC,Option.some.injEq] at h2;subst h2;exact fP h1
         ·intro t h1 h2;simp only [dC,Option.some.injEq] at h1;subst h1;exact fH h2
       clear hJ7;have Zx : s.aq Eb = none:=s17;rcases bP with ⟨rfl,ic,OJ⟩ | ⟨tk,ek,rfl,OU,gM⟩
       ·refine wE fun K hK=>?_;simp only [↓DN,Qa,Qb,Qc,Qd,Qe,Qf,Qg,Qh,reduceCtorEq,↓reduceIte,Na,Nb,Nc,Nk,Nf,Ng,Nh,Za,Zb,Zc,TT,g17,PZ,bZ,xN];intro tk ft;have MG:=bN hle ft;have fK:=bK.fresh rfl ft;have fH:=bH.fresh Zv ft;refine hK _ _ (hJ5 _ _ (.sl 2 1 [.v (.int .u64 sk),.sl 2 sl.length SL .any] (.own tk 0)) (by rw [hF]; exact ⟨Vq,ME,TU,g0,g1,g2,g3,g4,g10,g17,g20⟩) rfl rfl rfl g21 g19 ?_ (AS.aa _ _ _) ?_ (bK.I0 fK) (bH.I0 fH) ?_ ?_ dKH (AS.aB (AS.bG hle MG 0) Zx _))
        ·rw [AS.ae _ (Ne.symm dp)];exact RZ
        ·rw [iQ,kQ,hSc,OJ,show i = 0 by omega];exact gr.new MG (by simp [AS.bo,AS.set])
        ·intro t h1 h2;simp only [dC,Option.some.injEq] at h1;subst h1;exact fK h2
        ·intro t h1 h2;simp only [dC,Option.some.injEq] at h1;subst h1;exact fH h2
       ·refine jU (Ai @g17 (Ai @PZ (Ai @OU @xN))) fun K hK=>?_;have fK : dC zK≠some tk:=dPK _ rfl;have fH : dC zH≠some tk:=dPH _ rfl;refine ⟨by omega,by omega,hK _ _ (hJ5 _ _ (.sl 2 (i + 1) (aK aM.cells (bT t lf d ctx fresh i) ++ [.v (.int .u64 sk),.sl 2 sl.length SL .any]) (.own tk (ek + 1))) (by rw [hF]; exact ⟨Vq,ME,TU,g0,g1,g2,g3,g4,g10,g17,g20⟩) rfl rfl rfl g21 g19 ?_ (AS.aa _ _ _) ?_ (bK.I0 fK) (bH.I0 fH) ?_ ?_ dKH (AS.aB (AS.bG hle gM (ek + 1)) Zx _))⟩
        ·rw [AS.ae _ (Ne.symm dp)];exact RZ
        ·rw [iQ,kQ,hSc];exact gr.new gM (by simp [AS.bo,AS.set])
        ·intro t h1 h2;simp only [dC,Option.some.injEq] at h1;subst h1;exact fK h2
        ·intro t h1 h2;simp only [dC,Option.some.injEq] at h1;subst h1;exact fH h2
     ·have bS : ¬ ((i : Nat) : Int) < ((P.length : Nat) : Int):=(by omega);obtain rfl : i = P.length:=(by omega);have hG : pX t lf d fresh P.length = true:=by
       unfold pX;rw [List.all_eq_true];intro j hj;exact Fo j (List.mem_range.1 hj)
      rw [if_neg (by rw [hG]; decide)] at hR;have u9 : (cK d P.length).length = P.length:=(by simp [cK]);have Vs : (bT t lf d ctx fresh P.length).length = P.length:=(by simp [bT]);have hHl : (da lf d P P.length).length = P.length + 1:=(by simp [da]);have hwt:=fun s=>ah.iU (.cons (.refl _) (.cons (.refl _) (.cons (.refl _) (.cons (bK.aA AV.aJ) (.cons (.refl _) .nil))))) (by
       have:=MD op (cK d P.length) u9 s;unfold Fp bA aR at this;rw [hXe,u9] at this;exact this)
      have hMU : wh t lf d fresh = iW t lf op (cK d P.length) fresh:=(by unfold wh; rw [Zu,← gk]);have Zy : R1 = gi t lf d ctx fresh∧R2 = 0:=⟨congrArg (·.1) hR,congrArg (·.2) hR⟩;have hMV : gi t lf d ctx fresh = ⟨⟨op,(nd (iW t lf op (cK d P.length) fresh) (2 * lf)).parent,bT t lf d ctx fresh P.length⟩,iW t lf op (cK d P.length) fresh,da lf d P P.length,cz d (P.length + 1)⟩:=by
       unfold gi;rw [hMU,Zu,← gk]
      rw [hMV] at Zy;have c2:=fun s=>mR P.length (by omega) s;obtain ⟨u,hu⟩ : ∃ u,u = iW t lf op (cK d P.length) fresh:=⟨_,rfl⟩;rw [← hu] at hwt Zy;have hul : u.length = t.length:=(by rw [hu]; unfold iW; simp only [List.length_set]; exact lJ ..);have hut : 2 * lf < u.length:=(by omega);have dI:=fY hut;have qM : (0 : Int)≤((2 * lf : Nat) : Int):=(by omega);have kR : ((2 * lf : Nat) : Int) < ((u.length : Nat) : Int):=(by omega);have gy:=fun s=>ga (Γ:=Γ) (nd u (2 * lf)).parent s (by
       have:=Kh t lf op (cK d P.length) fresh (show 2 * lf < t.length by omega);rw [← hu] at this;omega)
      generalize hZ : aK ao.cells u = Z at *
      generalize nd u (2 * lf) = N at *
      obtain ⟨n1,n2,n3,n4,n5⟩:=N;unfold ao.cells at dI;unfold aj at gy dI;simp only at gy Zy;refine jB (Ai @ME (Ai @Vq (decide_eq_false bS))) ?_;refine wK fun K2 aW=>?_;refine jF ?_;refine aC ?_;simp only [az,aw,if_true];refine gE _ _ ?_;clear gE aW K2 K1;refine eO ?_;intro K hK;refine jP (Ai @g0 (Ai @g1 (Ai @g17 (Ai @PZ (Ai @g21 @g4))))) ?_;refine ad (hwt _) ?_;rintro r s12 ⟨rfl,rfl⟩;refine jR hK ?_;clear hK K;refine eO ?_;intro K hK;refine jP (Ai @g1 (Ai @g17 (Ai @PZ (Ai (eG lf (by omega)) (Ai @qM (Ai @kR @dI)))))) ?_;refine ad (gy _) ?_;rintro r s13 ⟨rfl,rfl⟩;refine jV (Ai @g17 @PZ) hK ?_;clear hK K;refine BK (fm.jf (d:=17) (o:=Eb) (cs:=[.v (.int .u64 op),.sl 1 n4.length (n4.map ai) .any,zP]) g17 (AS.aa _ _ _)) (ck.g ?_);have IL : ((s13.set Eb [.v (.int .u64 op),.sl 1 n4.length (n4.map ai) .any,zP]).drop Eb).aq sC = some [.v (.int .u64 0),.v (.slice none 0 0),.v (.slice none 0 0)]:=by
       rw [← RZ];simp [AS.drop,AS.set,aF,Ne.symm dp]
      have Vt : s.le ((s13.set Eb [.v (.int .u64 op),.sl 1 n4.length (n4.map ai) .any,zP]).drop Eb):=AS.sN (AS.aB hle s17 _) s17;generalize (s13.set Eb [.v (.int .u64 op),.sl 1 n4.length (n4.map ai) .any,zP]).drop Eb = s14 at *
      have wH:=bH.aA (by rw [hH0]; exact AV.bJ);have wP:=bP.aA AV.aJ;have hPn : bZ = AV.v (.slice none 0 0):=rfl;have cW : ∀ (E : Env),E 10 = .ptr sC 0→E 11 = .sl 5 u.length Z .any→E 12 = zH→E 13 = .sl 1 (cz d (P.length + 1)).length ((cz d (P.length + 1)).map ai) .any→E 14 = .v (.int .i64 0) →
        cn prog (#[ResultVar.cell 10 32,ResultVar.tmp 11,ResultVar.tmp 12,ResultVar.tmp 13,ResultVar.tmp 14] : Array ResultVar).toList (fun r s'=>r = BV R1 R2∧s' = s) .ret E (s14.set sC [.v (.int .u64 op),.sl 1 n4.length (n4.map ai) .any,zP]):=by
       intro E f10 f11 f12 f13 f14;refine oJ (o:=sC) (off:=0) f10 (AS.aa _ _ _) (by rw [T.Li]; decide) (by simp only [↓DN,Qa,Qb,Qc,Qd,Qe,Qf,Qg,Qh,reduceCtorEq,↓reduceIte,Na,Nb,Nc,Nk,Nf,Ng,Nh,Za,Zb,Zc,TT]; rfl) ?_;rw [f11,f12,f13,f14,Zy.1,Zy.2];unfold BV bA ke aj bE.cells;simp only;rw [Vs,hHl,hZ];exact ⟨_,s,AV.BX (.cons (AV.j9 (.cons (AV.aA.refl _) (.cons (AV.aA.refl _) (.cons wP .nil)))) (.cons (AV.aA.refl _) (.cons wH (.cons (AV.aA.refl _) (.cons (AV.aA.refl _) .nil))))),AS.aB Vt Vp _,rfl,rfl⟩
      rcases bP with ⟨rfl,ic,-⟩ | ⟨tk,ek,rfl,-,-⟩
      ·rw [ic] at c2 cW;refine kc T.mixed [8] [(1007,.sl 1 (cz d (0 + 1)).length ((cz d (0 + 1)).map ai) .any)] [0,1,2,3,4,5,6,7,8,9,10,11,12] (by kernel_rfl) ?_;intro K hK;simp only [↓nU,↓lG,↓gS,↓gU,Nat.reduceAdd,↓gT,eF,dP,mK,bL,DX,Nat.reduceBEq,List.toList_toArray,List.map_cons,List.map_nil,aI,↓DN,Qa,Qb,Qc,Qd,Qe,Qf,Qg,Qh,reduceCtorEq,↓reduceIte,Na,Nb,Nc,Nk,Nf,Ng,Nh,Za,Zb,Zc,TT,g2,g19,g10,IL,hPn];refine IK c2 ?_;refine hK _ _ ?_;clear hK K;refine a7 ?_;try simp only [az,aw]
       exact cW _ g10 rfl rfl rfl rfl
      ·refine kc T.mixed [8] [(1007,.sl 1 (cz d (P.length + 1)).length ((cz d (P.length + 1)).map ai) .any)] [0,1,2,3,4,5,6,7,8,9,10,11,12] (by kernel_rfl) ?_;intro K hK;simp only [↓nU,↓lG,↓gS,↓gU,Nat.reduceAdd,↓gT,eF,dP,mK,bL,DX,Nat.reduceBEq,List.toList_toArray,List.map_cons,List.map_nil,aI,↓DN,Qa,Qb,Qc,Qd,Qe,Qf,Qg,Qh,reduceCtorEq,↓reduceIte,Na,Nb,Nc,Nk,Nf,Ng,Nh,Za,Zb,Zc,TT,g2,g19,g10,IL];refine IK c2 ?_;refine hK _ _ ?_;clear hK K;refine a7 ?_;try simp only [az,aw]
       exact cW _ g10 rfl rfl rfl rfl
  ·have e2 : ((d.length : Int) != 32) = true:=by
    rw [bne_iff_ne];omega
   rw [if_pos l6] at hR;refine jB @e2 ?_;refine jE ?_;refine jB @RY ?_;refine a7 ?_;try simp only [az,aw]
   exact kN sC 2 (congrArg (·.1) hR) (congrArg (·.2) hR) _ _ (u7 hle Vp _) (AS.aa _ _ _) rfl rfl rfl rfl rfl
 ·have e0 : (oV t leaf != 0) = true:=(by simp [he]);rw [if_pos he] at hR;refine jB @e0 ?_;refine jE ?_;refine jB @RY ?_;refine a7 ?_;try simp only [az,aw]
  exact kN sC _ (congrArg (·.1) hR) (congrArg (·.2) hR) _ _ (u7 hle Vp _) (AS.aa _ _ _) rfl rfl rfl rfl rfl
theorem MH {n : Nat} : n6 n = true↔2≤n∧n≤2305843009213693949:=by
  unfold n6;rw [Bool.and_eq_true,decide_eq_true_iff,decide_eq_true_iff];omega
theorem Dj {t : List ao} {leaf : Int} {d ctx : List UInt8} {fresh : List Int} (h : (pZ t leaf d ctx fresh).2 = 0) :
    oV t leaf = 0∧d.length = 32∧n6 (kB d) = true∧pX t leaf.toNat d fresh (aH leaf.toNat (bj t)).length = true∧(pZ t leaf d ctx fresh).1 = gi t leaf.toNat d ctx fresh:=by
  unfold pZ at h ⊢;by_cases h1 : oV t leaf = 0
  · rw [if_neg (fun k=>k h1)] at h ⊢;by_cases h2 : d.length = 32
    · rw [if_neg (fun k=>k h2)] at h ⊢;cases h3 : n6 (kB d) with
      | false=>rw [h3,if_pos rfl] at h; cases h
      | true =>
        rw [h3,if_neg (by decide)] at h;rw [if_neg (by decide)];cases h4 : pX t leaf.toNat d fresh (aH leaf.toNat (bj t)).length with
        | false=>rw [h4,if_pos rfl] at h; cases h
        | true=>exact ⟨h1,h2,rfl,rfl,by rw [if_neg (by decide)]⟩
    · rw [if_pos h2] at h;cases h
  · rw [if_pos h1] at h;exact absurd h h1
theorem Fq {t : List ao} {lf : Nat} {d : List UInt8} {fresh : List Int} {m i : Nat} (h : pX t lf d fresh m = true) (hi : i < m) : stepG d i (l9 t lf fresh i) = true:=by
  unfold pX at h;rw [List.all_eq_true] at h;exact h i (List.mem_range.2 hi)
theorem Ki {d : List UInt8} {i : Nat} {RT : List Int} (h : stepG d i RT = true) : n6 (nn (cz d (i + 1))) = true:=by
  unfold stepG at h;rw [Bool.and_eq_true] at h;exact h.1
theorem BZ (t : List ao) (d ctx : List UInt8) (i : Nat) (RT : List Int) : (gH t d ctx i RT).key = nn (cz d (i + 1)):=by unfold gH; exact Eq.refl _
theorem va (t : List ao) (d ctx : List UInt8) (i : Nat) (RT : List Int) : (gH t d ctx i RT).c7.length = RT.length:=by unfold gH; exact List.length_map _
theorem tH (t : List ao) (lf : Nat) (d ctx : List UInt8) (fresh : List Int) {m i : Nat} (h : i < m) : (bT t lf d ctx fresh m).getD i ⟨0,[]⟩ = gH t d ctx i (l9 t lf fresh i):=by
  simp [bT,List.getD,h]
theorem Fs (t : List ao) (lf : Nat) (d ctx : List UInt8) (fresh : List Int) (m : Nat) : (bT t lf d ctx fresh m).map (·.key) = cK d m:=by
  unfold bT cK;rw [List.map_map];refine List.map_congr_left fun i _=>?_;rw [Function.comp_apply,BZ]
theorem HG {t : List ao} {lf : Nat} {d ctx : List UInt8} {fresh : List Int} (h : (pZ t lf d ctx fresh).2 = 0) : p7 t lf (gi t lf d ctx fresh).p fresh = (wh t lf d fresh,0):=by
  obtain ⟨h1,-,h3,h4,-⟩:=Dj h;rw [Int.toNat_natCast] at h4;have hl : (bT t lf d ctx fresh (aH lf (bj t)).length).length = (aH lf (bj t)).length:=(by simp [bT]);have hs : vb t lf fresh (bT t lf d ctx fresh (aH lf (bj t)).length) = true:=by
    unfold vb;rw [List.all_eq_true,hl];intro i hi;have bc:=List.mem_range.1 hi;rw [tH t lf d ctx fresh bc];unfold B0;rw [Bool.and_eq_true];rw [BZ,va];refine ⟨Ki (Fq h4 bc),?_⟩;rw [decide_eq_true_iff];unfold l9;exact Eq.refl _
  unfold p7 gi;simp only [Int.toNat_natCast];rw [if_neg (fun k=>k h1),if_neg (by rw [hl,h3]; simp),if_neg (by rw [hs]; simp),Fs];have hU : iW t lf (kB d) (cK d (aH lf (bj t)).length) fresh = wh t lf d fresh:=(by unfold wh; rfl);rw [hU,if_pos rfl]
theorem tI (d : List UInt8) (a : Nat) : ∀ i,cz (cz d a) i = cz d (a + i)
  | 0=>rfl
  | i + 1=>by rw [cz,tI d a i]; rfl
theorem Ft {x : Int} : ∀ {l : List Int},x ∈ l→∃ i,∃ hi : i < l.length,l[i] = x∧∀ j (hj : j < l.length),j < i→l[j]≠x
  | [],h=>by cases h
  | y :: l,h=>by
    by_cases e : y = x
    · exact ⟨0,by simp,e,fun j _ h=>absurd h (Nat.not_lt_zero _)⟩
    · obtain ⟨i,hi,h1,h2⟩:=Ft ((List.mem_cons.1 h).resolve_left (fun k=>e k.symm));refine ⟨i + 1,by simpa using hi,by simpa using h1,?_⟩;intro j hj Ev;cases j with
      | zero=>simpa using e
      | succ j=>simpa using h2 j (by simpa using hj) (by omega)
theorem HI (d : List UInt8) (lf : Nat) (P : List Nat) (a : Nat) (ha : a≤P.length) : ej (cz d (a + 1)) (P.drop a) = (da lf d P P.length).drop (1 + a):=by
  apply List.ext_getElem
  · simp [ej,da];omega
  · intro i h1 h2;rw [lK,List.length_drop] at h1;have e1 : (P.drop a).getD i 0 = P.getD (a + i) 0:=(by simp [List.getD,List.getElem?_drop]);have e2 : a + 1 + i = a + i + 1:=(by omega);have e3 : 1 + a + i = (a + i) + 1:=(by omega);simp only [ej,List.getElem_map,List.getElem_range,List.getElem_drop,da,e3,List.getElem_cons_succ,rV,e1,tI,e2]
theorem MI (d : List UInt8) (a n : Nat) (iX : Nat→Nat) (h : ∀ i,i < n→iX i = nn (cz d (a + i + 1))) : rW (cz d (a + 1)) n iX = true :=
  wk fun j hj=>by rw [h j hj,tI,show a + 1 + j = a + j + 1 by omega]
theorem AG (ev : Γ 0 = ew Sha.H0) (ig : Γ 1 = Sha.K.map wV) (hG : Γ 3 = fM.map pg) (t : List ao) (ht : gG t) (MA : t.length≤2 ^ 30) (hw : ∀ n ∈ t,p5 n) (lf : Nat)
    (d ctx : List UInt8) (Dh : ctx.length≤2 ^ 30) (fresh : List Int) (hf : fresh.length≤2 ^ 40) (OM : (pZ t lf d ctx fresh).2 = 0) (ow : Nat) (Zz : l7 t ow) (dp : ow≠lf) (hnf : (ow : Int) ∉ fresh)
    (a : Nat) (ha : R5 lf (bj t) ow = (a : Int)) (iS : a < (aH lf (bj t)).length) (x : Nat) (hx : (x : Int) ∈ l9 t lf fresh a) (k : Nat) (hk : (nd t x).key = 3 ^ k % PP) (Lf : 1≤k∧k≤2305843009213693949) (s : AS) :
    ah prog Γ 27 [bA t,.v (.int .i64 lf),.agg (gi t lf d ctx fresh).p.cells,.v (.int .i64 ow),ke [⟨(x : Nat),k⟩],aj ctx .any,aR fresh .any] s
      (fun r s'=>r = .eJ [ke (⟨(x : Nat),k⟩ :: (da lf d (aH lf (bj t)) (aH lf (bj t)).length).drop (1 + a)),aj (cz d ((aH lf (bj t)).length + 1)) .any,.v (.int .i64 0)]∧s' = s):=by
  obtain ⟨h1,h2,h3,h4,-⟩:=Dj OM
  rw [Int.toNat_natCast] at h4
  obtain ⟨hr,hm⟩:=qI.1 h1
  obtain ⟨dS,lT⟩ : Fit (bj t)∧t.length = 2 * bj t - 1:=by
    rcases dn (t:=t) with h | h
    · exact absurd h hr.1
    · exact h
  have oW:=dS.le
  have pV : lf < bj t:=by
    have:=hm.2.1
    omega
  have JI:=IX dS pV lT iS
  obtain ⟨m,hxm,hmt,xiB,p8⟩:=I4 hr fresh JI hx
  obtain rfl : x = m:=by omega
  obtain ⟨i0,ic,hie,Vu⟩:=Ft hx
  have hl : (gi t lf d ctx fresh).p.steps.length = (aH lf (bj t)).length:=by simp [gi,bT]
  have lZ : a < (gi t lf d ctx fresh).p.steps.length:=by omega
  have eN : (gi t lf d ctx fresh).p.steps[a] = gH t d ctx a (l9 t lf fresh a):=by simp [gi,bT]
  have uu : (gi t lf d ctx fresh).p.steps[a].c7.length = (l9 t lf fresh a).length:=by rw [eN]; exact va ..
  have B3 : ((gi t lf d ctx fresh).p.steps[a].c7[i0]'(by omega)) = tJ t d ctx a x:=by
    have : ((gH t d ctx a (l9 t lf fresh a)).c7[i0]'(by simpa [gH] using ic)) = tJ t d ctx a x:=by
      simp only [gH,List.getElem_map,hie,Int.toNat_natCast]
    simpa only [eN] using this
  have MF : wm d a (x : Int) = true:=by
    have:=Fq h4 iS
    unfold stepG at this
    rw [Bool.and_eq_true,List.all_eq_true] at this
    exact this.2 _ hx
  have Ea : wo (iF (iG d a x)):=by
    unfold wm at MF
    rw [Int.toNat_natCast] at MF
    exact MH.1 MF
  have R6 : (l9 t lf fresh a).length≤2 ^ 40:=by
    unfold l9 bQ
    split
    · have h1:=nj hr fresh (lv (cC (nodeAt lf (bj t) a) : Int).toNat) (cC (nodeAt lf (bj t) a) : Int).toNat
      have h2:=pP (cC (nodeAt lf (bj t) a) : Int).toNat
      have h3:=Nat.pow_le_pow_right (show 0 < 2 by decide) h2
      omega
    · exact Nat.zero_le _
  have gy:=Dk (Γ:=Γ) ev ig hG t ht MA hw hr lf hm (gi t lf d ctx fresh).p hl ow Zz dp ⟨(x : Nat),k⟩ ctx Dh fresh hf hnf (by rw [HG OM]) a ha lZ i0 ic hie Vu (by omega) (by omega)
    (by rw [B3]; exact ⟨Ea,Lf.1,Lf.2⟩) (by rw [B3]; unfold tJ iH; rw [n9,qJ]; decide)
    (by
      intro h
      obtain ⟨u,hu,he⟩:=List.mem_map.1 h
      have he : (u : Int) = (x : Int):=he
      obtain rfl : u = x:=by omega
      exact MJ dS pV iS (by omega) p8 hu)
    (cz d (a + 1)) (by rw [B3]; unfold tJ; simp only; rw [hk]; exact TX ..) (by rw [B3]; unfold tJ; simp only; rw [hk]; exact TY ..) (qJ d a)
    (MI d a _ _ fun i hi=>by
      rw [List.length_drop] at hi
      have:=tH t lf d ctx fresh (m:=(aH lf (bj t)).length) (i:=a + i) (by omega)
      unfold gi
      simp only
      rw [this]
      rfl) s
  rw [HI d lf _ a (by omega),tI,show a + 1 + ((aH lf (bj t)).length - a) = (aH lf (bj t)).length + 1 by omega] at gy
  exact gy
end Go.Proofs.YtbiefppedlodiaaGreatDoor
namespace Go.AM
open Go Go.RowKit
variable {P : Program} {Γ : Nat→List AV}
theorem ah.settled {f : FuncId} {a b : AV} {post : List AV} {x x' : AV} {s s' : AS} {Q : AV→AS→Prop} (h : cM Γ s x s' x') (k : ah P Γ f (a :: b :: x' :: post) s' Q) : ah P Γ f (a :: b :: x :: post) s Q:=by
  intro G w vs hs hv;have hv:=hv;simp only [ar] at hv;obtain ⟨u1,us1,rfl,h1,u2,us2,rfl,h2,u,us,rfl,h3,h4⟩:=hv;obtain ⟨G',g1,g2,g3⟩:=h G w u hs h3;refine (k G' w _ g2 (by simp only [ar]; exact ⟨u1,_,rfl,au.mono g1 _ _ h1,u2,_,rfl,au.mono g1 _ _ h2,u,_,rfl,g3,ar.mono g1 _ _ h4⟩)).mono ?_;rintro e w' ⟨sA,r,v,fD,rfl,q1,q2,q3,q4⟩;exact ⟨sA,r,v,fD,rfl,g1.trans q1,q2,q3,q4⟩
end Go.AM
namespace Go.Proofs.YtbiefppedlodiaaGreatDoor
open Go Go.AM Go.Proofs Tryz
variable {Γ : Nat→List AV}
def tw : List UInt8:=List.replicate 32 0
theorem HJ : de [98] = 1143308707886319510:=by decide +kernel
theorem MK : uZ tw = 1668877266923750098:=by decide +kernel
theorem ML : pW (cz tw 1) = 954470548532752739:=by decide +kernel
theorem Kj : de (iG tw 0 2) = 1379976697818645679:=by decide +kernel
theorem P3 : 3 ^ 1143308707886319510 % PP = 1403620569307361687:=(Hpke.Fu 64 3 1143308707886319510 (by decide)).symm.trans (by decide +kernel)
theorem Kk : 3 ^ 1668877266923750098 % PP = 1108681655847164022:=(Hpke.Fu 64 3 1668877266923750098 (by decide)).symm.trans (by decide +kernel)
theorem Kl : 3 ^ 954470548532752739 % PP = 316409525784712861:=(Hpke.Fu 64 3 954470548532752739 (by decide)).symm.trans (by decide +kernel)
theorem HK : 3 ^ 1379976697818645679 % PP = 2058778986153334545:=(Hpke.Fu 64 3 1379976697818645679 (by decide)).symm.trans (by decide +kernel)
theorem Fv : 3 ^ de [98] % PP = 1403620569307361687:=(congrArg (fun e=>3 ^ e % PP) HJ).trans P3
theorem Km (d : List UInt8) : kB d = 3 ^ uZ d % PP:=by unfold kB; exact Eq.refl _
theorem P4 (d : List UInt8) : nn d = 3 ^ pW d % PP:=by unfold nn; exact Eq.refl _
theorem Fw : kB tw = 1108681655847164022:=(Km tw).trans ((congrArg (fun e=>3 ^ e % PP) MK).trans Kk)
theorem Ko : nn (cz tw 1) = 316409525784712861:=(P4 _).trans ((congrArg (fun e=>3 ^ e % PP) ML).trans Kl)
theorem Ks : iF (iG tw 0 2) = 2058778986153334545:=(MM _).trans ((congrArg (fun e=>3 ^ e % PP) Kj).trans HK)
def tA : List ao:=[⟨1,[97],9,[],[]⟩,ao.kA,⟨1,[98],1403620569307361687,[],[]⟩]
theorem nq : bO tA∧l7 tA 0∧l7 tA 1∧bj tA = 2∧gG tA∧R5 0 2 1 = 0∧aH 0 2 = [1]∧cC (nodeAt 0 2 0) = 2∧l8 tA [] (lv 2) 2 = [2]:=by decide +kernel
theorem HL : l9 tA 0 [] 0 = [2]:=by
 unfold l9 bQ;rw [nq.2.2.2.1,nq.2.2.2.2.2.2.2.1,if_pos ⟨by decide,by decide,nq.1⟩];exact nq.2.2.2.2.2.2.2.2
theorem vd : (aH 0 (bj tA)).length = 1:=by rw [nq.2.2.2.1,nq.2.2.2.2.2.2.1]; rfl
theorem Fx : ∀ n ∈ tA,p5 n:=by unfold tA p5; decide
theorem Dl : (pZ tA (0 : Nat) tw [] []).2 = 0:=by
 have hm : oV tA (0 : Nat) = 0:=qI.2 ⟨nq.1,nq.2.1⟩;have hG : pX tA 0 tw [] 1 = true:=by
  unfold pX;rw [List.all_eq_true];intro i hi;obtain rfl : i = 0:=(by have:=List.mem_range.1 hi; omega);rw [HL];unfold stepG;rw [show (0 : Nat) + 1 = 1 from rfl,Ko,Bool.and_eq_true,List.all_eq_true];refine ⟨by decide,fun n hn=>?_⟩;obtain rfl : n = 2:=(by simpa using hn);unfold wm;rw [show (2 : Int).toNat = 2 from rfl,Ks];decide
 unfold pZ;rw [if_neg (fun k=>k hm),if_neg (by decide),Fw,if_neg (by decide),Int.toNat_natCast,vd,if_neg (by rw [hG]; decide)]
theorem T3 (a c : Int) (b d : Nat) : JE prog 67 .eql [.v (.int .i64 a),.v (.int .u64 b)] [.v (.int .i64 c),.v (.int .u64 d)] = some (.v (.bool (decide (a = c∧b = d)))):=by
 have h : JE prog 67 .eql [.v (.int .i64 a),.v (.int .u64 b)] [.v (.int .i64 c),.v (.int .u64 d)] = some (.v (.bool ((a == c) && (((b : Nat) : Int) == ((d : Nat) : Int) && true)))):=by
  kernel_rfl
 rw [h];refine congrArg (fun b=>some (AV.v (Value.bool b))) ?_;rw [Bool.eq_iff_iff];simp only [Bool.and_true,Bool.and_eq_true,beq_iff_eq,decide_eq_true_iff];omega
theorem AH (ev : Γ 0 = ew Sha.H0) (ig : Γ 1 = Sha.K.map wV) (hG : Γ 3 = fM.map pg) (s : AS) : ah prog Γ 8 [] s (fun r s'=>r = .v (.bool true)∧s' = s):=by
 refine ab func8 rfl ntmps8 results8 (by simp) ?_;have c1:=fun s=>y5 (Γ:=Γ) [98] (by decide) s;have c2:=fun s=>tK (Γ:=Γ) (de [98]) (by rw [HJ]; decide) s;have c3:=fun s=>Dg (Γ:=Γ) ev ig hG tA nq.2.2.2.2.1 (by decide) Fx (0 : Nat) tw [] (by decide) (by decide) [] (by decide) s;have c4:=fun s=>AG (Γ:=Γ) ev ig hG tA nq.2.2.2.2.1 (by decide) Fx 0 tw [] (by decide) [] (by decide) Dl 1 nq.2.2.1 (by decide) (by simp) 0 (by rw [nq.2.2.2.1]; exact nq.2.2.2.2.2.1) (by rw [vd]; decide) 2 (by rw [HL]; simp)
  (de [98]) (by rw [Fv]; rfl) (by rw [HJ]; decide) s
 rw [Dl,(Dj Dl).2.2.2.2] at c3;rw [Fv] at c2;rw [vd] at c4;rw [Int.toNat_natCast] at c3;have hH1 : da 0 tw (aH 0 (bj tA)) 1 = [⟨(2 * 0 : Nat),uZ tw⟩,rV tw (aH 0 (bj tA)) 0]:=(by unfold da; simp only [List.range_succ,List.range_zero,List.nil_append,List.map_cons,List.map_nil]);obtain ⟨V,hV⟩ : ∃ V,V = gi tA 0 tw [] []:=⟨_,rfl⟩;have v1 : V.p.steps = [gH tA tw [] 0 [2]]:=by
  rw [hV];unfold gi bT;simp only;rw [vd];simp only [List.range_succ,List.range_zero,List.nil_append,List.map_cons,List.map_nil];rw [HL]
 have v2 : V.t.length = 3:=by
  rw [hV];unfold gi wh iW;simp only [List.length_set];rw [lJ];decide
 have v3 : V.held = [⟨(2 * 0 : Nat),uZ tw⟩,rV tw (aH 0 (bj tA)) 0]:=by
  rw [hV];unfold gi;simp only;rw [vd,hH1]
 have v4 : V.Mx = cz tw (1 + 1):=by
  rw [hV];unfold gi;simp only;rw [vd]
 rw [← hV] at c3 c4;rw [hH1] at c4;simp only [List.drop_succ_cons,List.drop_zero] at c4;have v5 : (gH tA tw [] 0 [2]).c7.length = 1:=va ..;clear hV hH1;generalize gH tA tw [] 0 [2] = S at *
 generalize rV tw (aH 0 (bj tA)) 0 = h1 at *
 generalize uZ tw = ok at *
 generalize cz tw (1 + 1) = cm at *
 generalize de [98] = kb at *
 obtain ⟨⟨pk,pp,ps⟩,vt,vh,vc⟩:=V;obtain ⟨sk,sl⟩:=S;obtain ⟨hn,hk⟩:=h1;simp only at v1 v2 v3 v4 v5;subst v1 v3 v4;have oc : bA tA = .sl 5 3 [.v (.int .i64 1),.sl 1 1 [.v (.int .u8 97)] .any,.v (.int .u64 9),.sl 1 0 [] .any,.sl 1 0 [] .any,.v (.int .i64 0),.sl 1 0 [] .any,.v (.int .u64 0),.sl 1 0 [] .any,.sl 1 0 [] .any,.v (.int .i64 1),.sl 1 1 [.v (.int .u8 98)] .any,.v (.int .u64 (1403620569307361687 : Nat)),.sl 1 0 [] .any,.sl 1 0 [] .any] .any:=rfl;have htw : (AV.sl 5 3 [.v (.int .i64 1),.sl 1 1 [.v (.int .u8 97)] .new,.v (.int .u64 9),.v (.slice none 0 0),.v (.slice none 0 0),.v (.int .i64 0),.v (.slice none 0 0),.v (.int .u64 0),.v (.slice none 0 0),.v (.slice none 0 0),.v (.int .i64 1),.sl 1 1 [.v (.int .u8 98)] .new,.v (.int .u64 (1403620569307361687 : Nat)),.v (.slice none 0 0),.v (.slice none 0 0)] .new).aA (bA tA):=by
  rw [oc];exact fun G v h=>AV.bJ G v (AV.gF (.cons (AV.aA.refl _) (.cons AV.bJ (.cons (AV.aA.refl _) (.cons AV.aJ (.cons AV.aJ (.cons (AV.aA.refl _) (.cons AV.aJ (.cons (AV.aA.refl _) (.cons AV.aJ (.cons AV.aJ (.cons (AV.aA.refl _) (.cons AV.bJ (.cons (AV.aA.refl _) (.cons AV.aJ (.cons AV.aJ .nil))))))))))))))) G v h)
 obtain ⟨TN,hTN⟩ : ∃ TN,TN = AV.sl 5 3 [.v (.int .i64 1),.sl 1 1 [.v (.int .u8 97)] .new,.v (.int .u64 9),.v (.slice none 0 0),.v (.slice none 0 0),.v (.int .i64 0),.v (.slice none 0 0),.v (.int .u64 0),.v (.slice none 0 0),.v (.slice none 0 0),.v (.int .i64 1),.sl 1 1 [.v (.int .u8 98)] .new,.v (.int .u64 (1403620569307361687 : Nat)),.v (.slice none 0 0),.v (.slice none 0 0)] .new:=⟨_,rfl⟩;rw [← hTN] at htw;have R7 : ∀ (o : Nat) (s : AS),s.aq o = none→ah prog Γ 10 [TN,.v (.int .i64 0),.gw o 0 1 32 32,.v (.slice none 0 0),.v (.slice none 0 0)] (s.set o (List.replicate 32 (.v (.int .u8 0)))) (fun r s'=>r = BV ⟨⟨pk,pp,[⟨sk,sl⟩]⟩,vt,[⟨(2 * 0 : Nat),ok⟩,⟨hn,hk⟩],vc⟩ 0∧s' = s):=fun o s ho=>by
  have hz : (tw.map ai) = List.replicate 32 (.v (.int .u8 0)):=(by unfold tw; rw [List.map_replicate]; rfl);refine ah.settled (cM.outer (cs:=List.replicate 32 (.v (.int .u8 0))) (rest:=[]) (by rw [List.append_nil]; exact AS.aa _ _ _) (by simp)) ?_;rw [AS.drop_set ho];have:=ah.iU (.cons htw (.cons (AV.aA.refl _) (.cons (AV.aA.refl _) (.cons AV.aJ (.cons AV.aJ .nil))))) (c3 s);unfold aj at this;rw [hz] at this;exact this
 have Vv : ∀ s,ah prog Γ 27 [TN,.v (.int .i64 0),.agg (bE.cells ⟨pk,pp,[⟨sk,sl⟩]⟩),.v (.int .i64 1),.sl 2 1 [.v (.int .i64 2),.v (.int .u64 kb)] .new,.v (.slice none 0 0),.v (.slice none 0 0)] s
   (fun r s'=>r = .eJ [ke [⟨(2 : Nat),kb⟩,⟨hn,hk⟩],aj vc .any,.v (.int .i64 0)]∧s' = s):=fun s =>
  ah.iU (.cons htw (.cons (AV.aA.refl _) (.cons (AV.aA.refl _) (.cons (AV.aA.refl _) (.cons AV.bJ (.cons AV.aJ (.cons AV.aJ .nil))))))) (c4 s)
 clear c3 c4 oc htw;have T4 : ∀ a : AV,List.replicate 1 a = [a]:=fun _=>rfl;have ZA : ∀ a b c d e : AV,lW 15 [a,b,c,d,e] = [a,b,c,d,e,a,b,c,d,e,a,b,c,d,e]:=(fun _ _ _ _ _=>by simp [lW,List.range_succ]);have xN : ∀ a b : AV,lW 2 [a,b] = [a,b]:=fun _ _=>rfl;unfold BV bE.cells at R7;unfold bE.cells at Vv;unfold bA at R7;simp only at R7 Vv;rw [v2] at R7;simp only [ke,List.length_cons,List.length_nil,Nat.zero_add,Nat.reduceAdd] at R7 Vv;have hX : aK aM.cells [⟨sk,sl⟩] = [.v (.int .u64 (sk : Nat)),.sl 2 1 (aK aY.cells sl) .any]:=(by rw [← v5]; rfl);have hY1 : aK bY.cells [⟨(2 * 0 : Nat),ok⟩,⟨hn,hk⟩] = [.v (.int .i64 0),.v (.int .u64 ok),.v (.int .i64 hn),.v (.int .u64 hk)]:=rfl;have hY2 : aK bY.cells [⟨(2 : Nat),kb⟩,⟨hn,hk⟩] = [.v (.int .i64 2),.v (.int .u64 kb),.v (.int .i64 hn),.v (.int .u64 hk)]:=rfl;rw [hX,hY1] at R7;rw [hX,hY2] at Vv;generalize aK aY.cells sl = SL at *
 generalize aK ao.cells vt = X at *
 unfold aj at R7 Vv;clear hX hY1 hY2 v5 v2;refine jA ?_;refine jK (c1 _) ?_;rintro s1 rfl;refine jS (Ai @T4 @ZA) fun K hK=>?_;refine ad (c2 _) ?_;rintro r s2 ⟨rfl,rfl⟩;refine jV (Ai @T4 @ZA) hK ?_;clear hK K;rw [← hTN];refine aU 3 (by decide) ?_;intro K hK;refine jM ?_;refine ⟨by decide,by decide,fun o ho=>?_⟩;refine ad (R7 o _ ho) ?_;rintro r s3 ⟨rfl,rfl⟩;refine jM ?_;intro o3 q3;refine hK _ _ o3 _ rfl q3 ?_;clear hK K q3;refine jS (Ai @T4 @xN) fun K hK=>?_;refine ad (Vv _) ?_;rintro r s4 ⟨rfl,rfl⟩;refine jR hK ?_;clear hK K;have w9 : (((1 : Nat) : Int) == 1) = true:=rfl;have R3 : ((0 : Int) == 0) = true:=rfl;have e33 : (((3 : Nat) : Int) == 3) = true:=rfl;have e22 : (((2 : Nat) : Int) == 2) = true:=rfl;have h01 : (0 : Int) < ((1 : Nat) : Int):=(by decide);have h02 : (1 : Int) < ((2 : Nat) : Int):=(by decide);have hse : JE prog 67 .eql [.v (.int .i64 hn),.v (.int .u64 hk)] [.v (.int .i64 hn),.v (.int .u64 hk)] = some (.v (.bool true)):=(by rw [T3,decide_eq_true ⟨rfl,rfl⟩]);have Cy : ((vc == vc) = true):=beq_self_eq_true vc;refine bB T.mixed [] (by kernel_rfl) ?_;intro K hK;refine jV (Ai @w9 (Ai @R3 (Ai @e33 (Ai @e22 (Ai @h01 (Ai @h02 (Ai @hse (Ai @fw (Ai @eB @Cy))))))))) hK ?_;clear hK K;exact jJ
theorem wX (ev : Γ 0 = ew Sha.H0) (ig : Γ 1 = Sha.K.map wV) (hG : Γ 3 = fM.map pg) (x : bE) (hw : x.wf) (b : List UInt8) (s : AS) :
  ah prog Γ 7 [.agg x.cells,aj b .any] s (fun r s'=>r = .v (.bool true)):=by
 refine ab func7 rfl ntmps7 results7 (by simp) ?_;have haw:=fun s=>AH (Γ:=Γ) ev ig hG s;obtain ⟨pk,pp,ps⟩:=x;have hPc : bE.cells ⟨pk,pp,ps⟩ = [.v (.int .u64 pk),aj pp .any,.sl 2 ps.length (aK aM.cells ps) .any]:=rfl;have oc:=fun i (h : i < ps.length)=>fN (c:=aM.cells) (k:=2) (fun _=>rfl) h;obtain ⟨XX,hXX⟩ : ∃ XX,XX = aK aM.cells ps:=⟨_,rfl⟩;rw [← hXX] at hPc;rw [hPc];simp only [← hXX] at oc;unfold aj at hPc ⊢;have hps : ps.length≤maxLen:=hw.2.2;have hsw : ∀ y ∈ ps,y.wf:=hw.2.1;refine aU 2 (by decide) ?_;intro K hK;refine jM ?_;intro o ho;refine hK _ _ o _ rfl ho ?_;clear hK K ho;refine wK fun K hK=>?_;refine jQ fun K hK=>?_;refine ad (haw _) ?_;rintro r s1 ⟨rfl,rfl⟩;rcases tt3 (decide ((20 : Int) < (ps.length : Int))) (decide ((200 : Int) < (pp.length : Int))) (decide ((3000 : Int) < (b.length : Int))) with hd | hd | hd | hd;case inr.inr.inr =>
  refine jV @hd hK ?_;clear hK K;refine jF ?_;refine ag ?_;refine hK _ _ ?_;clear hK K;simp only [decide_eq_false_iff_not] at hd;obtain ⟨OO,Le,hd3⟩:=hd;refine wK fun K hK=>?_;refine jA ?_;refine al ?_;refine aE (fun E s2=>∃ i : Nat,i≤ps.length∧(∀ j,(h : j < ps.length)→j < i→ps[j].fits)∧E 5 = .v (.int .i64 i)∧E 1 = .sl 1 b.length (b.map ai) .any∧E 2 = .dq [.v (.int .u64 pk),.sl 1 pp.length (pp.map ai) .any,.sl 2 ps.length XX .any]∧s2 = s1)
   (fun E _=>match E 5 with | .v (.int _ i)=>ps.length - i.toNat | _=>0) ?_ ?_
  ·exact ⟨0,Nat.zero_le _,fun j _ h=>absurd h (Nat.not_lt_zero _),rfl,rfl,rfl,rfl⟩
  ·rintro E1 s2 ⟨i,hi,Fo,g5,g1,g2,rfl⟩ -
   refine wK fun K2 aW=>?_;by_cases bc : i < ps.length
   ·have bS : ((i : Nat) : Int) < ((ps.length : Nat) : Int):=(by omega);have dr : (0 : Int)≤((i : Nat) : Int):=(by omega);have dI:=oc i bc;have xda : ps[i].fits→∀ j,(h : j < ps.length)→j < i + 1→ps[j].fits:=by
     intro hf j hj Ev;by_cases e : j = i
     ·subst e; exact hf
     ·exact Fo j hj (by omega)
    have ZB:=hsw ps[i] (List.getElem_mem bc);refine jB (Ai @g5 (Ai @g2 (decide_eq_true bS))) ?_;refine jE ?_;refine ag ?_;refine aW _ _ ?_;clear aW K2;refine wK fun K3 bC=>?_;refine al ?_;generalize ps[i] = y at *
    obtain ⟨yk,yl⟩:=y;have hyl : yl.length≤maxLen:=ZB.2.2;have y6:=fun i (h : i < yl.length)=>fN (c:=aY.cells) (k:=2) (fun _=>rfl) h;unfold aM.cells at dI;simp only at dI;generalize aK aY.cells yl = YL at *
    refine wK fun K4 ei=>?_;by_cases ZC : yl.length≤20
    ·have e1 : ¬ ((20 : Int) < (yl.length : Int)):=(by omega);refine jB (Ai @g5 (Ai @g2 (Ai @bS (Ai @dr (Ai @dI (decide_eq_false e1)))))) ?_;refine jF ?_;refine ag ?_;refine ei _ _ ?_;clear ei K4;refine jA ?_;refine al ?_;refine aE (fun E s3=>∃ k : Nat,k≤yl.length∧(∀ j,(h : j < yl.length)→j < k→yl[j].fits)∧E 6 = .v (.int .i64 k)∧E 5 = .v (.int .i64 i)∧E 1 = .sl 1 b.length (b.map ai) .any∧E 2 = .dq [.v (.int .u64 pk),.sl 1 pp.length (pp.map ai) .any,.sl 2 ps.length XX .any]∧s3 = s2)
      (fun E _=>match E 6 with | .v (.int _ i)=>yl.length - i.toNat | _=>0) ?_ ?_
     ·exact ⟨0,Nat.zero_le _,fun j _ h=>absurd h (Nat.not_lt_zero _),rfl,g5,g1,g2,rfl⟩
     ·have G5:=g5;clear g5 g1 g2;rintro E2 s3 ⟨k,hk,Vi,g6,g5,g1,g2,rfl⟩ -
      refine wK fun K5 lU=>?_;by_cases oT : k < yl.length
      ·have kR : ((k : Nat) : Int) < ((yl.length : Nat) : Int):=(by omega);have qM : (0 : Int)≤((k : Nat) : Int):=(by omega);have xa:=y6 k oT;have xdb : yl[k].fits→∀ j,(h : j < yl.length)→j < k + 1→yl[j].fits:=by
        intro hf j hj Ev;by_cases e : j = k
        ·subst e; exact hf
        ·exact Vi j hj (by omega)
       refine jB (Ai @g6 (Ai @g5 (Ai @g2 (Ai @bS (Ai @dr (Ai @dI (decide_eq_true kR))))))) ?_;refine jE ?_;refine ag ?_;refine lU _ _ ?_;clear lU K5;refine wK fun K6 kn=>?_;refine al ?_;generalize yl[k] = z at *
       obtain ⟨zf,zt⟩:=z;unfold aY.cells at xa;unfold aj at xa;simp only at xa;by_cases xdc : zt.length≤100
       ·have e2 : ¬ ((100 : Int) < (zt.length : Int)):=(by omega);refine jB (Ai @g6 (Ai @g5 (Ai @g2 (Ai @bS (Ai @dr (Ai @dI (Ai @kR (Ai @qM (Ai @xa (decide_eq_false e2)))))))))) ?_;refine jF ?_;refine ag ?_;simp only [aw,az,if_true,if_false];refine kn _ _ ?_;clear kn K6;refine jD (Ai @g6 (bt k (by omega))) ?_;refine ⟨⟨k + 1,oT,xdb xdc,rfl,g5,g1,g2,rfl⟩,?_⟩;simp only [g6,aF,↓reduceIte];omega
       ·have e2 : (100 : Int) < (zt.length : Int):=(by omega);refine jB (Ai @g6 (Ai @g5 (Ai @g2 (Ai @bS (Ai @dr (Ai @dI (Ai @kR (Ai @qM (Ai @xa (decide_eq_true e2)))))))))) ?_;refine jE ?_;refine jA ?_;refine jI ?_;exact ⟨_,_,AV.aA.refl _,AS.le.refl _,rfl⟩
      ·have kR : ¬ ((k : Nat) : Int) < ((yl.length : Nat) : Int):=(by omega);refine jB (Ai @g6 (Ai @g5 (Ai @g2 (Ai @bS (Ai @dr (Ai @dI (decide_eq_false kR))))))) ?_;refine jF ?_;refine aC ?_;simp only [az,aw,if_true,if_false,Nc];clear lU K5;refine bC _ _ ?_;clear bC K3;refine jD (Ai @g5 (bt i (by omega))) ?_;refine ⟨⟨i + 1,bc,xda ⟨fun z hz=>?_,trivial,?_⟩,rfl,g1,g2,rfl⟩,?_⟩
       ·obtain ⟨j,hj,rfl⟩:=List.mem_iff_getElem.1 hz;have gQ : j < yl.length:=hj;exact Vi j gQ (by omega)
       ·show yl.length≤32;omega
       ·simp only [G5,aF,↓reduceIte];omega
    ·have e1 : (20 : Int) < (yl.length : Int):=(by omega);refine jB (Ai @g5 (Ai @g2 (Ai @bS (Ai @dr (Ai @dI (decide_eq_true e1)))))) ?_;refine jE ?_;refine jA ?_;refine jI ?_;exact ⟨_,_,AV.aA.refl _,AS.le.refl _,rfl⟩
   ·have bS : ¬ ((i : Nat) : Int) < ((ps.length : Nat) : Int):=(by omega);obtain rfl : i = ps.length:=(by omega);refine jB (Ai @g5 (Ai @g2 (decide_eq_false bS))) ?_;refine jF ?_;refine aC ?_;simp only [az,aw,if_true];refine hK _ _ ?_;clear hK aW K2 K;have dS : bE.fits ⟨pk,pp,ps⟩:=⟨fun y hy=>by
     obtain ⟨j,hj,rfl⟩:=List.mem_iff_getElem.1 hy;exact Fo j hj hj,trivial,by show pp.length≤200; omega,by show ps.length≤20; omega⟩
    have Vw:=fun s=>rX (Γ:=Γ) ⟨pk,pp,ps⟩ hw dS s;have hWp:=fun s p h=>xb (Γ:=Γ) s2 s p ([],false) ⟨pk,pp,ps⟩ hw dS (by decide) h;rw [hPc] at Vw hWp;have lT:=bE.gI dS;have Fy : cx (bE.text ⟨pk,pp,ps⟩) ([],false) = (bE.text ⟨pk,pp,ps⟩,false):=(by simp [cx]);rw [Fy] at hWp;generalize bE.text ⟨pk,pp,ps⟩ = w at *
    have hww : (w != w) = false:=(by simp);refine jQ fun K hK=>?_;refine ad (nr s2) ?_;rintro r s3 ⟨p,rfl,hp⟩;refine jR hK ?_;clear hK K;refine jS @g2 fun K hK=>?_;refine ad (hWp _ _ hp) ?_;rintro r s4 ⟨rfl,hp4⟩;refine jR hK ?_;clear hK K;refine jK (fO s2 s4 p _ (by simp only; omega) hp4) ?_;rintro s5 rfl;refine wK fun K hK=>?_;refine bB T.mixed [6] (by kernel_rfl) ?_;intro K hK;refine jN (Ai @g2 (Ai @fw (Ai @eB @hww))) ?_;refine ad (Vw _) ?_;rintro r s6 ⟨rfl,rfl⟩;refine jV @hww hK ?_;clear hK K;refine jF ?_;refine ag ?_;refine hK _ _ ?_;clear hK K;clear Vw hWp Fy lT hp hp4 hww;refine jS @g1 fun K hK=>?_;refine ad (MN b _ (by omega)) ?_;rintro r s7 ⟨pe,Vx,rfl,rfl⟩;refine jR hK ?_;clear hK K;refine jS (Ai @g1 (Ai @fw @eB)) fun K hK=>?_;intro m hm;have Tm : pe≠m:=(by rintro rfl; simp at hm);refine hK _ _ ?_;clear hK K;obtain ⟨S,hS⟩ : ∃ x,x = (s6.set pe (dW (b,0))).set m [.v (.string ⟨b.toArray⟩),.v (.int .i64 0)]:=⟨_,rfl⟩;have a1 : S.aq pe = some (dW (b,0)):=(by rw [hS,AS.ae _ Tm,AS.aa]);have a2 : S.aq m = some (cI (b,0)):=(by rw [hS,AS.aa]);rw [← hS];clear hS hm Vx;refine fX 12 13 (by decide) (by decide) (by decide) ?_;intro K hK;refine jM ?_;refine ad (y7 S pe (b,0) (by simp only; omega) a1) ?_;rintro r s8 ⟨rfl,rfl⟩;refine jM ?_;refine ad (tL _ m (b,0) (by simp only; omega) (by rw [AS.ae _ Tm.symm]; exact a2)) ?_;rintro r s9 ⟨rfl,rfl⟩;have b1 : ((S.set pe (dW (iI (b,0)).2)).set m (cI (iI (b,0)).2)).aq pe = some (dW (iI (b,0)).2):=(by rw [AS.ae _ Tm,AS.aa]);have b2 : ((S.set pe (dW (iI (b,0)).2)).set m (cI (iI (b,0)).2)).aq m = some (cI (iI (b,0)).2):=AS.aa _ _ _;generalize (S.set pe (dW (iI (b,0)).2)).set m (cI (iI (b,0)).2) = S2 at *
    have I5:=fun s=>Dm (Γ:=Γ) (iI (b,0)).1 (iI (b,0)).1 (MO _) s;rw [decide_eq_true rfl] at I5;generalize iI (b,0) = q at *
    obtain ⟨⟨qk,qp,qs⟩,qt⟩:=q;simp only [bE.cells] at I5 ⊢;generalize aK aM.cells qs = QS at *
    unfold aj at *
    refine jM ?_;intro o1 vK o2 iR;have dp : o1≠o2:=(by rintro rfl; simp at iR);have oQ:=dp.symm;have MP : (S2.set o1 [.v (.int .u64 qk),.sl 1 qp.length (qp.map ai) .any,.sl 2 qs.length QS .any]).aq o2 = none:=by
     rw [AS.ae _ oQ];simpa [oQ] using iR
    simp only [dp,oQ,if_true,if_false,↓reduceIte,List.set_cons_zero,List.set_cons_succ,List.length_cons,List.length_nil,Nat.reduceAdd,Nat.le_refl,true_and];rw [AS.IE _ dp,AS.set_set];refine hK _ _ o1 o2 _ _ rfl rfl (by simpa using vK) MP ?_;clear hK K vK iR MP dp oQ;obtain ⟨ql,qe⟩:=qt;simp only at b1 b2 I5;have c1:=ve (Γ:=Γ) S2 pe _ b1;have c2:=HM (Γ:=Γ) S2 pe _ b1;unfold cI at b2;simp only at b2 c1 c2;have f1 : (qe == qe) = true:=(by simp);refine (fun (k : ∀ (E : Env) (s9 : AS),S2 = s9→E 10 = .ptr pe 0→E 11 = .ptr m 0→E 12 = .dq [.v (.int .u64 qk),.sl 1 qp.length (qp.map ai) .any,.sl 2 qs.length QS .any]→E 13 = .dq [.v (.int .u64 qk),.sl 1 qp.length (qp.map ai) .any,.sl 2 qs.length QS .any]→_)=>k _ _ rfl (by simp only [aF,Nc,↓reduceIte]) (by simp only [aF,Nc,↓reduceIte]) (by simp only [aF,Nc,↓reduceIte]) (by simp only [aF,Nc,↓reduceIte])) ?_;rintro E s9 rfl g10 g11 g12 g13;by_cases he : qe = 0
    ·have f2 : (qe != 0) = false:=(by rw [he]; rfl);have f3 : (((ql.length : Nat) : Int) == ((ql.length : Nat) : Int)) = true:=(by simp);refine kc T.mixed [] [(2,.v (.bool true)),(5,.v (.int .i64 qe)),(9,.v (.int .i64 qe)),(16,.v (.int .i64 qe)),(20,.v (.int .i64 ql.length)),(24,.v (.string ⟨ql.toArray⟩))] [0,1,2,3,4,5,6,7,8,9,10,11,12,13,14,15,16,17,18,19,20,21,22,23,24,25,26,27,28,29] (by kernel_rfl) ?_;intro K hK;simp (config := { maxSteps := 1000000 }) only [↓nU,↓lG,↓gS,↓gU,Nat.reduceAdd,↓gT,eF,dP,mK,bL,DX,Nat.reduceBEq,List.toList_toArray,List.map_cons,List.map_nil,aI,↓DN,Qa,Qb,Qc,Qd,Qe,Qf,Qg,Qh,reduceCtorEq,↓reduceIte,Na,Nb,Nc,Nk,Nf,Ng,Nh,Za,Zb,Zc,TT,b2,f1,f2,f3,g10,g11,g12,g13];refine Fe (I5 _) (Fe c1 (Fe c2 ?_));refine hK _ _ ?_;clear hK K;refine jI ?_;exact ⟨_,_,AV.aA.refl _,AS.le.refl _,rfl⟩
    ·have f2 : (qe != 0) = true:=(by rw [bne_iff_ne]; exact he);refine kc T.mixed [] [(2,.v (.bool true)),(5,.v (.int .i64 qe)),(9,.v (.int .i64 qe)),(16,.v (.int .i64 qe))] [0,1,2,3,4,5,6,7,8,9,10,11,12,13,14,15,16,17,18,19,20,21,22,23,24,25,26,27,28,29] (by kernel_rfl) ?_;intro K hK;simp (config := { maxSteps := 1000000 }) only [↓nU,↓lG,↓gS,↓gU,Nat.reduceAdd,↓gT,eF,dP,mK,bL,DX,Nat.reduceBEq,List.toList_toArray,List.map_cons,List.map_nil,aI,↓DN,Qa,Qb,Qc,Qd,Qe,Qf,Qg,Qh,reduceCtorEq,↓reduceIte,Na,Nb,Nc,Nk,Nf,Ng,Nh,Za,Zb,Zc,TT,b2,f1,f2,g10,g11,g12,g13];refine Fe (I5 _) (Fe c1 ?_);refine hK _ _ ?_;clear hK K;refine jI ?_;exact ⟨_,_,AV.aA.refl _,AS.le.refl _,rfl⟩
 all_goals
  simp only [↓bI,↓bp,bL,↓nU,↓lG,↓gS,↓gU,Nat.reduceAdd,↓gT,eF,dP,mK,bL,DX,Nat.reduceBEq,List.toList_toArray,List.map_cons,List.map_nil,aI,DX,Nat.reduceBEq,↓DN,Qa,Qb,Qc,Qd,Qe,Qf,Qg,Qh,reduceCtorEq,↓reduceIte,Na,Nb,Nc,Nk,Nf,Ng,Nh,Za,Zb,Zc,TT,hd];refine hK _ _ ?_;clear hK K;refine jE ?_;refine jK (haw _) ?_;rintro s3 rfl;refine jI ?_;exact ⟨_,_,AV.aA.refl _,AS.le.refl _,rfl⟩
def ZD : List Nat:=[0,1,28,2,29,14,24,3,30,22,20,15,25,17,4,8,31,27,13,23,21,19,16,7,26,12,18,6,11,5,10,9]
def Γd (g : Nat) : List AV:=if g = 0 then [wV Sha.H0.a,wV Sha.H0.b,wV Sha.H0.c,wV Sha.H0.d,wV Sha.H0.e,wV Sha.H0.f,wV Sha.H0.g,wV Sha.H0.h] else if g = 1 then Sha.K.map wV else if g = 2 then ZD.map pg else if g = 3 then fM.map pg else []
abbrev Fh : List (String × DataW Unit):=[("math/bits.deBruijn32tab", Rows.laid_math_bits_deBruijn32tab),("math/bits.deBruijn64tab", Rows.laid_math_bits_deBruijn64tab),("engrosser/sha.rounds", Rows.laid_engrosser_sha_rounds),("engrosser/sha.start", Rows.laid_engrosser_sha_start)]
theorem kS {H : Type} {enc : TypeId × Value→H} {P : Program} {W : World} {base : Nat} {sp : Nat→Bool} {held : Bool} {fuel : Nat} {t e : TypeId} {n : Nat} {cs : List Value} {p : List MemPlace} {l : List Nat} {kd : IntKind}
    (hT : P.underlying t = some (.array n e)) (he : P.underlying e = some (.int kd)) (hc : P.cellsOf e = 1)
    (h : DataW.trod enc P W base sp held fuel t cs = some (.agg (l.map fun (x : Nat)=>.lit (.int kd (x : Int))),p)) : ∀ (i x : Nat),l[i]? = some x→cs[i]? = some (.int kd (x : Int)):=by
  obtain ⟨xs,m,rfl,hx,hlen,hn,wQ⟩:=DataW.trod_array hT h;simp only [Prod.mk.injEq,DataW.agg.injEq] at hx;intro i x hi;have h1 : (l.map fun (x : Nat)=>DataW.lit (H:=H) (.int kd (x : Int)))[i]? = some (.lit (.int kd (x : Int))):=(by rw [List.getElem?_map,hi]; rfl);rw [hx.1,List.getElem?_map] at h1;cases hy : xs[i]? with
  | none=>rw [hy] at h1; cases h1
  | some y =>
    rw [hy] at h1;simp only [Option.map_some,Option.some.injEq] at h1;have bS:=(List.getElem?_eq_some_iff.1 hy).1;have h2:=wQ i (by omega);rw [hy,hc,Nat.mul_one] at h2;obtain ⟨k,e1,e2,_⟩:=DataW.trod_int he h2;rw [e2] at h1;simp only [DataW.lit.injEq,Lit.int.injEq,true_and] at h1;have h3 : (List.take 1 (List.drop i cs))[0]? = some (.int kd k):=(by rw [e1]; rfl);rw [List.getElem?_take,if_pos (by decide),List.getElem?_drop,Nat.add_zero,h1] at h3;exact h3
theorem P5 : prog.globalNamed "engrosser/sha.rounds" = some 1:=by kernel_rfl
theorem T5 : prog.globalNamed "engrosser/sha.start" = some 0:=by kernel_rfl
theorem xde : prog.globalNamed "math/bits.deBruijn32tab" = some 2:=by kernel_rfl
theorem xdf : prog.globalNamed "math/bits.deBruijn64tab" = some 3:=by kernel_rfl
theorem P6 : (prog.globals[1]?).map (·.type) = some 246:=by kernel_rfl
theorem T6 : (prog.globals[0]?).map (·.type) = some 215:=by kernel_rfl
theorem xdg : (prog.globals[2]?).map (·.type) = some 251:=by kernel_rfl
theorem xdh : (prog.globals[3]?).map (·.type) = some 232:=by kernel_rfl
theorem tM {kd : IntKind} {W : World} {g : Nat} {cs : Array Value} {l : List Nat} (hc : ∀ i,W.cell? ⟨g,i,none⟩ = cs[i]?) (h : ∀ (i x : Nat),l[i]? = some x→cs.toList[i]? = some (.int kd (x : Int))) :
    ∃ vs,ar (G0 W) (l.map fun (x : Nat)=>.v (.int kd (x : Int))) vs∧gz (G0 W) g 0 vs:=by
  refine ⟨l.map fun (x : Nat)=>.int kd (x : Int),?_,?_⟩
  · have:=ar.Ef (G:=G0 W) (l.map fun (x : Nat)=>Value.int kd (x : Int));rwa [List.map_map] at this
  · intro j u hu;rw [List.getElem?_map] at hu;cases hj : l[j]? with
    | none=>rw [hj] at hu; cases hu
    | some x =>
      rw [hj] at hu;simp only [Option.map_some,Option.some.injEq] at hu;have:=h j x hj;show W.cell? ⟨g,0 + j,none⟩ = some u;rw [Nat.zero_add,hc j,← hu];simpa using this
theorem PG {W : World} (h : laidMetH prog Fh W) : ∀ g,∃ vs,ar (G0 W) (Γd g) vs∧gz (G0 W) g 0 vs:=by
  rw [MakeChecks.laidMetH_plain _ _ _ (by kernel_rfl)] at h;obtain ⟨ps,⟨g0,t0,cs0,f0,p0,q0,hg0,gM,GL,ZE,⟨g1,t1,Gt,f1,p1,q1,Ve,OU,hv1,OO,⟨g2,t2,Gr,f2,p2,q2,PE,T7,hv2,Le,⟨g3,t3,cs3,f3,p3,q3,hg3,ht3,hv3,hd3,_,_⟩,_⟩,_⟩,_⟩,_,_⟩:=h;obtain rfl:=Option.some.inj (xde.symm.trans hg0);obtain rfl:=Option.some.inj (xdf.symm.trans Ve);obtain rfl:=Option.some.inj (P5.symm.trans PE);obtain rfl:=Option.some.inj (T5.symm.trans hg3);obtain rfl:=Option.some.inj (xdg.symm.trans gM);obtain rfl:=Option.some.inj (xdh.symm.trans OU);obtain rfl:=Option.some.inj (P6.symm.trans T7);obtain rfl:=Option.some.inj (T6.symm.trans ht3);have h2:=tM (World.var?_cell hg0 GL) (kS (l:=ZD) underlying251 underlying5 T.c5 ZE);have h3:=tM (World.var?_cell Ve hv1) (kS (l:=fM) underlying232 underlying5 T.c5 OO);have h1:=tM (World.var?_cell PE hv2) (kS (l:=Sha.K) underlying246 underlying214 T.C5 Le);have h0:=tM (World.var?_cell hg3 hv3) (kS (l:=Sha.H0.list) underlying215 underlying214 T.C5 hd3);intro g;by_cases e0 : g = 0
  · subst e0; exact h0
  · by_cases e1 : g = 1
    · subst e1; exact h1
    · by_cases e2 : g = 2
      · subst e2; exact h2
      · by_cases e3 : g = 3
        · subst e3; exact h3
        · refine ⟨[],?_,fun j u h=>by simp at h⟩;simp [Γd,e0,e1,e2,e3,ar]
theorem L8 (os : Os) (args : Array Value) : laidMetH prog Fh ((World.doorLaid prog 400 os).forCall (fun _ _=>0) ⟨#[],args,[]⟩).memory:=by
  rw [MakeChecks.laidMetH_plain _ _ _ (by kernel_rfl)];exact laidMet_of_run' 8 (by kernel_rfl) (by kernel_rfl)
set_option maxRecDepth 100000
def ZF : List Char:=[Ckz 104,Ckz 97,Ckz 114,Ckz 110,Ckz 101,Ckz 115,Ckz 115,Ckz 32,Ckz 97,Ckz 57,Ckz 98,Ckz 52,Ckz 52,Ckz 102,Ckz 55,Ckz 102,Ckz 53,Ckz 55,Ckz 57,Ckz 98,Ckz 98,Ckz 48,Ckz 54,Ckz 101,Ckz 48,Ckz 101,Ckz 51,Ckz 51,Ckz 101,Ckz 98,Ckz 102,Ckz 102,Ckz 98,Ckz 48,Ckz 52,Ckz 54,Ckz 56,Ckz 100,Ckz 97,Ckz 54,Ckz 48,Ckz 98,Ckz 55,Ckz 57,Ckz 97,Ckz 55,Ckz 54,Ckz 57,Ckz 51,Ckz 100,Ckz 57,Ckz 51,Ckz 51,Ckz 50,Ckz 54,Ckz 97,Ckz 97,Ckz 97,Ckz 50,Ckz 57,Ckz 48,Ckz 97,Ckz 57,Ckz 56,Ckz 49,Ckz 51,Ckz 55,Ckz 102,Ckz 51,Ckz 49,Ckz 101,Ckz 50,Ckz 32,Ckz 99,Ckz 117,Ckz 116,Ckz 32,Ckz 97,Ckz 116,Ckz 32,Ckz 101,Ckz 110,Ckz 103,Ckz 114,Ckz 111,Ckz 115,Ckz 115,Ckz 101,Ckz 114,Ckz 47,Ckz 101,Ckz 110,Ckz 103,Ckz 114,Ckz 111,Ckz 115,Ckz 115,Ckz 101,Ckz 114,Ckz 108,Ckz 97,Ckz 119,Ckz 50,Ckz 49,Ckz 46,Ckz 80,Ckz 97,Ckz 116,Ckz 104,Ckz 77,Ckz 97,Ckz 107,Ckz 101,Ckz 115,Ckz 32,Ckz 101,Ckz 110,Ckz 103,Ckz 114,Ckz 111,Ckz 115,Ckz 115,Ckz 101,Ckz 114,Ckz 47,Ckz 101,Ckz 110,Ckz 103,Ckz 114,Ckz 111,Ckz 115,Ckz 115,Ckz 101,Ckz 114,Ckz 108,Ckz 97,Ckz 119,Ckz 50,Ckz 49,Ckz 46,Ckz 80,Ckz 97,Ckz 116,Ckz 104,Ckz 65,Ckz 112,Ckz 112,Ckz 108,Ckz 105,Ckz 101,Ckz 115,Ckz 32,Ckz 101,Ckz 110,Ckz 103,Ckz 114,Ckz 111,Ckz 115,Ckz 115,Ckz 101,Ckz 114,Ckz 47,Ckz 101,Ckz 110,Ckz 103,Ckz 114,Ckz 111,Ckz 115,Ckz 115,Ckz 101,Ckz 114,Ckz 108,Ckz 97,Ckz 119,Ckz 50,Ckz 49,Ckz 46,Ckz 80,Ckz 97,Ckz 116,Ckz 104,Ckz 76,Ckz 101,Ckz 97,Ckz 114,Ckz 110,Ckz 115,Ckz 32,Ckz 101,Ckz 110,Ckz 103,Ckz 114,Ckz 111,Ckz 115,Ckz 115,Ckz 101,Ckz 114,Ckz 47,Ckz 101,Ckz 110,Ckz 103,Ckz 114,Ckz 111,Ckz 115,Ckz 115,Ckz 101,Ckz 114,Ckz 108,Ckz 97,Ckz 119,Ckz 50,Ckz 49,Ckz 46,Ckz 80,Ckz 97,Ckz 116,Ckz 104,Ckz 69,Ckz 110,Ckz 116,Ckz 101,Ckz 114,Ckz 115,Ckz 32,Ckz 101,Ckz 110,Ckz 103,Ckz 114,Ckz 111,Ckz 115,Ckz 115,Ckz 101,Ckz 114,Ckz 47,Ckz 101,Ckz 110,Ckz 103,Ckz 114,Ckz 111,Ckz 115,Ckz 115,Ckz 101,Ckz 114,Ckz 108,Ckz 97,Ckz 119,Ckz 50,Ckz 49,Ckz 46,Ckz 80,Ckz 97,Ckz 116,Ckz 104,Ckz 82,Ckz 101,Ckz 97,Ckz 100,Ckz 115]
def vg : List (List Char):=[[Ckz 104,Ckz 97,Ckz 114,Ckz 110,Ckz 101,Ckz 115,Ckz 115],
  [Ckz 97,Ckz 57,Ckz 98,Ckz 52,Ckz 52,Ckz 102,Ckz 55,Ckz 102,Ckz 53,Ckz 55,Ckz 57,Ckz 98,Ckz 98,Ckz 48,Ckz 54,Ckz 101,Ckz 48,Ckz 101,Ckz 51,Ckz 51,Ckz 101,Ckz 98,Ckz 102,Ckz 102,Ckz 98,Ckz 48,Ckz 52,Ckz 54,Ckz 56,Ckz 100,Ckz 97,Ckz 54,Ckz 48,Ckz 98,Ckz 55,Ckz 57,Ckz 97,Ckz 55,Ckz 54,Ckz 57,Ckz 51,Ckz 100,Ckz 57,Ckz 51,Ckz 51,Ckz 50,Ckz 54,Ckz 97,Ckz 97,Ckz 97,Ckz 50,Ckz 57,Ckz 48,Ckz 97,Ckz 57,Ckz 56,Ckz 49,Ckz 51,Ckz 55,Ckz 102,Ckz 51,Ckz 49,Ckz 101,Ckz 50],
  [Ckz 99,Ckz 117,Ckz 116],
  [Ckz 97,Ckz 116],
  [Ckz 101,Ckz 110,Ckz 103,Ckz 114,Ckz 111,Ckz 115,Ckz 115,Ckz 101,Ckz 114,Ckz 47,Ckz 101,Ckz 110,Ckz 103,Ckz 114,Ckz 111,Ckz 115,Ckz 115,Ckz 101,Ckz 114,Ckz 108,Ckz 97,Ckz 119,Ckz 50,Ckz 49,Ckz 46,Ckz 80,Ckz 97,Ckz 116,Ckz 104,Ckz 77,Ckz 97,Ckz 107,Ckz 101,Ckz 115],
  [Ckz 101,Ckz 110,Ckz 103,Ckz 114,Ckz 111,Ckz 115,Ckz 115,Ckz 101,Ckz 114,Ckz 47,Ckz 101,Ckz 110,Ckz 103,Ckz 114,Ckz 111,Ckz 115,Ckz 115,Ckz 101,Ckz 114,Ckz 108,Ckz 97,Ckz 119,Ckz 50,Ckz 49,Ckz 46,Ckz 80,Ckz 97,Ckz 116,Ckz 104,Ckz 65,Ckz 112,Ckz 112,Ckz 108,Ckz 105,Ckz 101,Ckz 115],
  [Ckz 101,Ckz 110,Ckz 103,Ckz 114,Ckz 111,Ckz 115,Ckz 115,Ckz 101,Ckz 114,Ckz 47,Ckz 101,Ckz 110,Ckz 103,Ckz 114,Ckz 111,Ckz 115,Ckz 115,Ckz 101,Ckz 114,Ckz 108,Ckz 97,Ckz 119,Ckz 50,Ckz 49,Ckz 46,Ckz 80,Ckz 97,Ckz 116,Ckz 104,Ckz 76,Ckz 101,Ckz 97,Ckz 114,Ckz 110,Ckz 115],
  [Ckz 101,Ckz 110,Ckz 103,Ckz 114,Ckz 111,Ckz 115,Ckz 115,Ckz 101,Ckz 114,Ckz 47,Ckz 101,Ckz 110,Ckz 103,Ckz 114,Ckz 111,Ckz 115,Ckz 115,Ckz 101,Ckz 114,Ckz 108,Ckz 97,Ckz 119,Ckz 50,Ckz 49,Ckz 46,Ckz 80,Ckz 97,Ckz 116,Ckz 104,Ckz 69,Ckz 110,Ckz 116,Ckz 101,Ckz 114,Ckz 115],
  [Ckz 101,Ckz 110,Ckz 103,Ckz 114,Ckz 111,Ckz 115,Ckz 115,Ckz 101,Ckz 114,Ckz 47,Ckz 101,Ckz 110,Ckz 103,Ckz 114,Ckz 111,Ckz 115,Ckz 115,Ckz 101,Ckz 114,Ckz 108,Ckz 97,Ckz 119,Ckz 50,Ckz 49,Ckz 46,Ckz 80,Ckz 97,Ckz 116,Ckz 104,Ckz 82,Ckz 101,Ckz 97,Ckz 100,Ckz 115]]
theorem ZG : prog.initOrder = String.ofList ZF:=by kernel_rfl
theorem words : wordsSigns prog.initOrder.toList = vg:=by
  rw [ZG,String.toList_ofList];kernel_rfl
theorem both {a b : Bool} (h : a = true) (k : b = true) : (a && b) = true:=by rw [h,k]; rfl
theorem PI {a b : Bool} (h : b = a) : (a == b) = true:=by rw [h]; cases a <;> rfl
theorem PK {a b : Option Make} (h : a = b) : (a == b) = true:=by rw [h]; exact beq_self_eq_true _
theorem B4 (r : List (List Char)) : stripLifts liftWords ("cut".toList :: r) = ([], "cut".toList :: r):=by kernel_rfl
theorem B5 {P : Program} {r} (h : behindMainWord (wordsSigns P.initOrder.toList) = "cut".toList :: r) : P.headLifts = []:=by
  unfold Program.headLifts;rw [h,B4];kernel_rfl
theorem MQ {P : Program} {r} (h : behindMainWord (wordsSigns P.initOrder.toList) = "cut".toList :: r) : P.make = some .cut:=by
  unfold Program.make;rw [h,B5 h];kernel_rfl
theorem Kt {P : Program} {r} (h : behindMainWord (wordsSigns P.initOrder.toList) = "cut".toList :: r) : P.liftsFinal = false:=by
  unfold Program.liftsFinal;rw [h,B5 h];kernel_rfl
theorem MR {P : Program} {s r} (h : wordsSigns P.initOrder.toList = "harness".toList :: s :: r) (hs : isSumSigns s = true) : P.mainIs = some (true,s):=by
  unfold Program.mainIs;rw [h];dsimp only;rw [hs];kernel_rfl
theorem P7 {P : Program} {r} (h : behindMainWord (wordsSigns P.initOrder.toList) = "cut".toList :: r) (hl : P.laysLater = false) (hr : P.bearsReflect = false) (hd : P.doorFits [] = true) : P.mayEnter = true:=by
  unfold Program.mayEnter;rw [h,hl,hr];dsimp only;rw [B4];dsimp only;rw [hd];kernel_rfl
theorem behind : behindMainWord (wordsSigns prog.initOrder.toList) = "cut".toList :: vg.drop 3:=(congrArg behindMainWord words).trans (by kernel_rfl)
theorem L9 : prog.make = some .cut:=MQ behind
theorem Ma : prog.mainIs = some (true, "a9b44f7f579bb06e0e33ebffb0468da60b79a7693d93326aaa290a98137f31e2".toList):=MR (r:=vg.drop 2) (words.trans (by kernel_rfl)) (by kernel_rfl)
theorem PH : prog.mayEnter = true:=P7 behind (by kernel_rfl) (by kernel_rfl) (by kernel_rfl)
theorem PJ : prog.liftsFinal = false:=Kt behind
end Go.Proofs.YtbiefppedlodiaaGreatDoor
