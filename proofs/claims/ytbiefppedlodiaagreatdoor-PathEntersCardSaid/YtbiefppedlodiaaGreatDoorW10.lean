/- Contracts of functions, each walked once; each theorem states its conditions. -/
import Derived.Test.YtbiefppedlodiaaGreatDoorAMp6
import Derived.Test.YtbiefppedlodiaaGreatDoorW1
import Derived.Test.YtbiefppedlodiaaGreatDoorW9
import Derived.Test.YtbiefppedlodiaaGreatDoorW8
import Derived.Test.YtbiefppedlodiaaGreatDoorAMp7
import Derived.Test.YtbiefppedlodiaaGreatDoorW6
import Derived.Test.YtbiefppedlodiaaGreatDoorW2
import Derived.Test.YtbiefppedlodiaaGreatDoorRows
import Derived.Test.YtbiefppedlodiaaGreatDoorW4
import Derived.ProofKit
import Derived.LaidMore
import Derived.MakeChecks
import Derived.OpenShut
open Char renaming ofNat → Cnn
set_option linter.unusedSimpArgs false
set_option linter.unusedVariables false
open Nat renaming reduceLT → Na, reduceLeDiff → Nb, reduceEqDiff → Nc, reduceAdd → Nk, reduceMul → Nf, reducePow → Ng, reduceSub → Nh, reduceBEq → Nz
open Int renaming reduceLT → Za, reduceLE → Zb, reduceToNat → Zc
open And renaming intro → Ai
open Go.AM renaming ashift → Qa, aconv → Qb, aindexAddr → Qc, aindex → Qd, aslice → Qe, abuiltin → Qf, awp_reg_seq → wS, awp_reg_end → wE, awp_seq_k → wK, awp_cond_k → wC
open Go.AM.AV renaming cells → Qg, one → Qh
set_option maxRecDepth 100000
set_option maxHeartbeats 8000000
namespace Go.Proofs.YtbiefppedlodiaaGreatDoor
open Go Go.AM Go.Proofs Tryz
variable {Γ : Nat→List AV}
def ss (t : List al) (d ctx : List UInt8) (i n : Nat) : eb:=⟨gU (gV d i n),gW (nd t n).key ei ctx (b7 d (i + 1)) (gV d i n)⟩
def fY (t : List al) (d ctx : List UInt8) (i : Nat) (RT : List Int) : cu:=⟨lq (b7 d (i + 1)),RT.map fun n=>ss t d ctx i n.toNat⟩
def uR (d : List UInt8) (i : Nat) (n : Int) : Bool:=nf (gU (gV d i n.toNat))
def stepG (d : List UInt8) (i : Nat) (RT : List Int) : Bool:=nf (lq (b7 d (i + 1))) && RT.all (uR d i)
theorem Rf {t : List al} (hr : bw t) {m : Nat} (h : (nd t m).kind≠0) : uS (nd t m).key:=by
 have hn:=hr.nd m;rcases pB hn with hk | hk | hk
 ·exact absurd hk h
 ·have:=((kq hk).1 hn).2.2.1;exact ⟨this.1,this.2.1⟩
 ·have:=((ks hk).1 hn).2.1;exact ⟨this.1,this.2.1⟩
theorem JN {s : AS} {xh qM : Nat} {Z W : List AV} (SZ : s.av xh = none) (yW : (if qM = xh then some Z else s.av qM) = none) :
  qM≠xh∧((s.set xh Z).set qM W).av xh = some Z∧((s.set xh Z).set qM W).av qM = some W∧s.le ((s.set xh Z).set qM W)∧s.av qM = none:=by
 have cW : qM≠xh:=(fun e=>by rw [if_pos e] at yW; cases yW);rw [if_neg cW] at yW;exact ⟨cW,by rw [AS.ao _ (Ne.symm cW)]; exact AS.ae _ _ _,AS.ae _ _ _,AS.aE (AS.aE (AS.le.refl s) SZ _) yW _,yW⟩
theorem none_le {s s2 : AS} (h : s.le s2) {o : Nat} (ho : s2.av o = none) : s.av o = none:=by
 cases hx : s.av o with
 | none=>rfl
 | some cs=>rw [h.av o cs hx] at ho; cases ho
theorem tF {s s2 : AS} (h : s.le s2) {o : Nat} (ho : s.av o = none) (cs : List AV) : s.le (s2.set o cs):=AS.aE h ho cs
theorem BD (dO : Γ 0 = dV Sha.H0) (gl : Γ 1 = Sha.K.map wV) (hG : Γ 3 = eS.map nH) (t : List al) (ht : dS t) (hr : bw t) (i : Nat) (hi : i < 256) (sd : Nat) (Ho : sd < t.length)
  (d ctx : List UInt8) (hd : d.length≤2 ^ 36) (BF : ctx.length≤2 ^ 30) (fresh : List Int) (hf : fresh.length≤2 ^ 40) (s : AS) :
  ai prog Γ 48 [aZ t,.v (.int .i64 i),.v (.int .i64 sd),aj d .any,aj ctx .any,aH fresh .any] s
   (fun r s'=>r = .dX [.agg (if stepG d i (bG t sd fresh) = true then fY t d ctx i (bG t sd fresh) else ⟨0,[]⟩).cells,.v (.int .i64 (if stepG d i (bG t sd fresh) = true then 0 else 30))]∧s' = s):=by
 refine aa func48 rfl ntmps48 results48 (by simp) ?_;have hRm : ∀ x ∈ bG t sd fresh,∃ m : Nat,x = (m : Int)∧m < t.length∧(nd t m).kind≠0∧kS m sd:=fun x h=>GC hr fresh Ho h;have PH : (bG t sd fresh).length≤2 ^ 40:=by
  unfold bG;split
  ·have h1:=mw hr fresh (lv (sd : Int).toNat) (sd : Int).toNat;have h2:=nG (sd : Int).toNat;have h3:=Nat.pow_le_pow_right (show 0 < 2 by decide) h2;omega
  ·exact Nat.zero_le _
 have xfQ : t.length≤63:=by
  rcases bT (t:=t) with h | h
  ·exact absurd h hr.1
  ·have:=h.1.le;omega
 have fL:=fun s=>iP (Γ:=Γ) hG t ht sd fresh (by omega) s;have lX:=fun s=>oQ (Γ:=Γ) dO gl d hd i (by omega) s;have tb:=pE d i;have my:=fun s=>lY (Γ:=Γ) dO gl (b7 d (i + 1)) (by omega) s;have JO:=fun s=>eH (Γ:=Γ) (lr (b7 d (i + 1))) (BG _) s;have Rg:=fun n s=>cb (Γ:=Γ) n s;have WM:=fun n (hn : n < 256) s=>BH (Γ:=Γ) dO gl d hd i n hi hn s;have Ap:=fun pub (hp : uS pub) sd (h : sd.length≤2 ^ 36) s=>JP (Γ:=Γ) dO gl pub hp ei ctx (b7 d (i + 1)) sd (by decide) BF (by omega) h s;generalize bG t sd fresh = RT at *
 obtain ⟨R,hR⟩ : ∃ R,R = (if stepG d i RT = true then fY t d ctx i RT else ⟨0,[]⟩):=⟨_,rfl⟩;obtain ⟨RE,Zd⟩ : ∃ RE,RE = (if stepG d i RT = true then (0 : Int) else 30):=⟨_,rfl⟩;rw [← hR,← Zd];have ef : stepG d i RT = false→R = ⟨0,[]⟩∧RE = 30:=(fun h=>by rw [hR,Zd,h]; exact ⟨rfl,rfl⟩);have eI : stepG d i RT = true→R = fY t d ctx i RT∧RE = 0:=(fun h=>by rw [hR,Zd,h]; exact ⟨rfl,rfl⟩);clear hR Zd;obtain ⟨L,hL⟩ : ∃ L,L = RT.map fun n=>ss t d ctx i n.toNat:=⟨_,rfl⟩;have hSS : fY t d ctx i RT = ⟨lq (b7 d (i + 1)),L⟩:=(by rw [hL]; rfl);rw [hSS] at eI;have Rh : L.length = RT.length:=(by rw [hL,List.length_map]);have Ri : ∀ k,(h : k < RT.length)→L.take (k + 1) = L.take k ++ [ss t d ctx i (RT[k]).toNat]:=by
  intro k h;rw [List.take_succ_eq_append_getElem (by omega)];simp [hL]
 have xas : ∀ k,(h : k < RT.length)→uR d i RT[k] = false→stepG d i RT = false:=by
  intro k h hb;unfold stepG;rw [Bool.and_eq_false_iff];right;rw [List.all_eq_false];exact ⟨RT[k],List.getElem_mem h,by rw [hb]; decide⟩
 have WN : nf (lq (b7 d (i + 1))) = true→(∀ k,(h : k < RT.length)→uR d i RT[k] = true)→stepG d i RT = true:=by
  intro h1 h2;unfold stepG;rw [h1,Bool.true_and,List.all_eq_true];intro x hx;obtain ⟨k,hk,rfl⟩:=List.mem_iff_getElem.1 hx;exact h2 k hk
 have WO : nf (lq (b7 d (i + 1))) = false→stepG d i RT = false:=by
  intro h;unfold stepG;rw [h];rfl
 generalize hpk : lq (b7 d (i + 1)) = pk at *
 have xau : 3 ^ lr (b7 d (i + 1)) % PP = pk:=hpk;rw [xau] at JO;have hsc : ∀ m : Nat,ss t d ctx i m = ⟨gU (gV d i m),gW (nd t m).key ei ctx (b7 d (i + 1)) (gV d i m)⟩:=fun _=>rfl;generalize b7 d (i + 1) = sec at *
 have uA : ∀ a b : AV,mI 2 [a,b] = [a,b]:=fun _ _=>rfl;unfold aH at *
 unfold aj at *
 unfold aZ at *
 refine jQ fun K hK=>?_;intro xh SZ;refine hK _ _ ?_;clear hK K;refine jK (lX _) ?_;rintro s1 rfl;refine jQ fun K hK=>?_;refine ad (my _) ?_;rintro r s2 ⟨rfl,rfl⟩;refine jM ?_;refine ad (JO _) ?_;rintro r s3 ⟨rfl,rfl⟩;refine jM ?_;intro qM yW;refine hK _ _ ?_;clear hK K;obtain ⟨cW,yX,Fm,hle,yW⟩:=JN (W:=[.v (.int .u64 pk),.v (.slice none 0 0)]) SZ yW;generalize (s.set xh [.v (.int .u64 0),.v (.slice none 0 0)]).set qM [.v (.int .u64 pk),.v (.slice none 0 0)] = s3 at *
 have bX : ∀ (E : Env) (s5 : AS),stepG d i RT = false→s.le s5→s5.av xh = some [.v (.int .u64 0),.v (.slice none 0 0)]→E 12 = .ptr xh 0→E 13 = .v (.int .i64 30)→b8 prog (#[ResultVar.cell 12 76,ResultVar.tmp 13] : Array ResultVar).toList (fun r s'=>r = .dX [.agg R.cells,.v (.int .i64 RE)]∧s' = s) .ret E s5:=by
  intro E s5 hb gp ho f12 f13;obtain ⟨rfl,rfl⟩:=ef hb;refine kL (o:=xh) (off:=0) f12 ho (by rw [T.Y5]; decide) (by simp only [↓DN,Qa,Qb,Qc,Qd,Qe,Qf,Qg,Qh,reduceCtorEq,↓reduceIte,Na,Nb,Nc,Nk,Nf,Ng,Nh,Za,Zb,Zc,TT]; rfl) ?_;rw [f13];exact ⟨_,s,AV.cO (AV.oD (fU.aB.cons (AV.aB.refl _) (fU.aB.cons AV.aI fU.aB.nil))) (AV.aB.refl _),gp,rfl,rfl⟩
 have Fo:=Rg pk;obtain ⟨q,hq⟩ : ∃ q,q = nf pk:=⟨_,rfl⟩;have JQ : (decide (2≤(pk : Int)) && decide ((pk : Int)≤2305843009213693949)) = q:=hq.symm;rw [JQ] at Fo;rw [← hq] at WO WN;refine wK fun K hK=>?_;refine jS @Fm fun K hK=>?_;refine ad (Fo _) ?_;rintro r s4 ⟨rfl,rfl⟩;cases q with
 | false =>
  refine jR hK ?_;clear hK K;refine jE ?_;refine jB @yX ?_;refine aW ?_;try simp only [az,ar]
  exact bX _ _ (WO rfl) (tF hle SZ _) (AS.ae _ _ _) rfl rfl
 | true =>
  refine jR hK ?_;clear hK K;refine jF ?_;refine ab ?_;refine hK _ _ ?_;clear hK K;refine wK fun K hK=>?_;refine jK (fL _) ?_;rintro s5 rfl;refine ag ?_;refine aC (fun E s2=>∃ (k : Nat) (z : AV),k≤RT.length∧(∀ j,(h : j < RT.length)→j < k→uR d i RT[j] = true)∧E 37 = .v (.int .i64 k)∧E 36 = .v (.int .i64 RT.length)∧E 35 = .sl 1 RT.length (RT.map aM) .any∧E 0 = .sl 5 t.length (aQ al.cells t) .any∧E 1 = .v (.int .i64 i)∧E 3 = .sl 1 d.length (d.map ah) .any∧E 4 = .sl 1 ctx.length (ctx.map ah) .any ∧
    E 12 = .ptr xh 0∧E 14 = .sl 1 sec.length (sec.map ah) .any∧E 15 = .ptr qM 0∧s2.av xh = some [.v (.int .u64 0),.v (.slice none 0 0)]∧s2.av qM = some [.v (.int .u64 pk),z]∧dz 2 s s2 z k (aQ eb.cells (L.take k))∧s.le s2)
   (fun E _=>match E 37 with | .v (.int _ k)=>RT.length - k.toNat | _=>0) ?_ ?_
  ·exact ⟨0,bO,Nat.zero_le _,fun j _ h=>absurd h (Nat.not_lt_zero _),rfl,rfl,rfl,rfl,rfl,rfl,rfl,rfl,rfl,rfl,yX,Fm,dz.nil _ _ _,hle⟩
  ·clear yX Fm hle;rintro E1 s6 ⟨k,z,hk,BI,Md,PI,g35,g0,g1,g3,g4,g12,g14,g15,yX,Fm,hz,hle⟩ -
   by_cases sr : k < RT.length
   ·have bI : ((k : Nat) : Int) < ((RT.length : Nat) : Int):=(by omega);have cz : (0 : Int)≤((k : Nat) : Int):=(by omega);obtain ⟨m,hm,hmt,L7,-⟩:=hRm RT[k] (List.getElem_mem sr);have Nn : (List.take 1 (List.drop k (RT.map aM)))[0]? = some (AV.v (.int .i64 (m : Nat))):=by
     simp [List.getElem?_take,sr,aM,hm]
    have dN:=Ri k sr;have hfb:=xas k sr;have JR : uR d i RT[k] = nf (gU (gV d i m)):=(by rw [hm]; rfl);rw [hm,Int.toNat_natCast,hsc] at dN;have c1:=fun s=>WM m (by omega) s;have c2:=fun s=>Ap (nd t m).key (Rf hr L7) (gV d i m) (by have:=JS d i m; omega) s;have c3:=fun s=>Rg (gU (gV d i m)) s;have dw:=dm hmt;have WQ:=BI;generalize gU (gV d i m) = fr at *
    generalize gW (nd t m).key ei ctx sec (gV d i m) = tx at *
    generalize gV d i m = Ze at *
    have c2' : ∀ s,ai prog Γ 107 [.v (.int .u64 (nd t m).key),.sl 1 4 [.v (.int .u8 112),.v (.int .u8 97),.v (.int .u8 116),.v (.int .u8 104)] .new,.sl 1 ctx.length (ctx.map ah) .any,.sl 1 sec.length (sec.map ah) .any,.sl 1 Ze.length (Ze.map ah) .any] s
      (fun r s'=>r = .dX [.agg [.v (.int .u64 fr),.sl 1 tx.length (tx.map ah) .any],.v (.int .i64 ((0 : Nat) : Int))]∧s' = s):=fun s =>
     ai.gz (fU.aB.cons (AV.aB.refl _) (fU.aB.cons (AV.bQ (sp:=.new)) (fU.aB.refl _))) (c2 s)
    clear c2 BI;generalize nd t m = N at *
    obtain ⟨n1,n2,n3,n4,n5⟩:=N;generalize aQ al.cells t = X at *
    unfold al.cells at dw;simp only at c2';have jc : ((m : Nat) : Int) < ((t.length : Nat) : Int):=(by omega);have mz : (0 : Int)≤((m : Nat) : Int):=(by omega);have PJ : (((0 : Nat) : Int) == 0) = true:=rfl;have e01 : (((0 : Nat) : Int) != 0) = false:=rfl;refine jB (Ai @PI (Ai @Md (decide_eq_true bI))) ?_;refine wK fun K2 aV=>?_;refine jE ?_;refine ab ?_;refine aV _ _ ?_;clear aV K2;refine wK fun K3 br=>?_;refine ag ?_;refine jB (Ai @g35 (Ai @Md (Ai @bI (Ai @cz @Nn)))) ?_;refine oL T.mixed [17,18] [(1012,.sl 1 Ze.length (Ze.map ah) .any),(1013,.dX [.agg [.v (.int .u64 fr),.sl 1 tx.length (tx.map ah) .any],.v (.int .i64 ((0 : Nat) : Int))])] [0,1,2,3,4,5,6,7,8,9,10,11,12,13,14,15,16,17,18,19] (by kernel_rfl) ?_;intro K hK;simp only [↓vT,↓sg,↓mY,↓m6,Nat.reduceAdd,↓mZ,px,mX,qG,bY,DX,Nat.reduceBEq,List.toList_toArray,List.map_cons,List.map_nil,aL,↓DN,Qa,Qb,Qc,Qd,Qe,Qf,Qg,Qh,reduceCtorEq,↓reduceIte,Na,Nb,Nc,Nk,Nf,Ng,Nh,Za,Zb,Zc,TT,g0,g1,g3,g4,g14,jc,mz,dw,List.replicate_succ,List.replicate_zero];refine Gt c1 (Gt c2' ?_);intro o ho;refine hK _ _ ?_;clear hK K;have WR : qM≠o:=(fun e=>by subst e; rw [Fm] at ho; cases ho);have WS : xh≠o:=(fun e=>by subst e; rw [yX] at ho; cases ho);have HS:=(AS.ao s6 WS [.v (.int .u64 fr),.sl 1 tx.length (tx.map ah) .any]).trans yX;have Fh:=(AS.ao s6 WR [.v (.int .u64 fr),.sl 1 tx.length (tx.map ah) .any]).trans Fm;have SW:=AS.ae s6 o [.v (.int .u64 fr),.sl 1 tx.length (tx.map ah) .any];have S1 : s.le (s6.set o [.v (.int .u64 fr),.sl 1 tx.length (tx.map ah) .any]):=AS.aE hle (none_le hle ho) _;have kz : dz 2 s (s6.set o [.v (.int .u64 fr),.sl 1 tx.length (tx.map ah) .any]) z k (aQ eb.cells (L.take k)):=hz.own fun t e h _=>h;generalize s6.set o [.v (.int .u64 fr),.sl 1 tx.length (tx.map ah) .any] = s7 at *
    clear ho yX Fm hle hz WS WR;refine wK fun K4 ee=>?_;refine jS (Ai @PJ @SW) fun K hK=>?_;refine ad (c3 _) ?_;rintro r s8 ⟨rfl,rfl⟩;obtain ⟨q2,JT⟩ : ∃ q2,q2 = nf fr:=⟨_,rfl⟩;have hq3 : (decide (2≤(fr : Int)) && decide ((fr : Int)≤2305843009213693949)) = q2:=JT.symm;rw [hq3];cases q2 with
    | false =>
     simp only [↓cj,↓bM,bY,↓vT,↓sg,↓mY,↓m6,Nat.reduceAdd,↓mZ,px,mX,qG,bY,DX,Nat.reduceBEq,List.toList_toArray,List.map_cons,List.map_nil,aL,DX,Nat.reduceBEq,↓DN,Qa,Qb,Qc,Qd,Qe,Qf,Qg,Qh,reduceCtorEq,↓reduceIte,Na,Nb,Nc,Nk,Nf,Ng,Nh,Za,Zb,Zc,TT];refine hK _ _ ?_;clear hK K;refine jE ?_;refine jT fun K hK=>?_;refine hK _ _ (ee _ _ ?_);clear hK K ee K4;have e30 : ((30 : Int) != 0) = true:=rfl;refine wK fun K5 kt=>?_;refine jB @e30 ?_;refine jE ?_;refine jB (Ai @g12 @HS) ?_;refine aW ?_;try simp only [az,ar]
     exact bX _ _ (hfb (by rw [JR,← JT])) (tF S1 SZ _) (AS.ae _ _ _) g12 rfl
    | true =>
     refine jR hK ?_;clear hK K;refine jF ?_;refine ab ?_;refine ee _ _ ?_;clear ee K4;refine wK fun K5 kt=>?_;refine jB @e01 ?_;refine jF ?_;refine ab ?_;refine kt _ _ ?_;clear kt K5;have pK : ∀ (E : Env) (s9 : AS) (z' : AV),E 37 = .v (.int .i64 k)→E 36 = .v (.int .i64 RT.length)→E 35 = .sl 1 RT.length (RT.map aM) .any→E 0 = .sl 5 t.length X .any→E 1 = .v (.int .i64 i)→E 3 = .sl 1 d.length (d.map ah) .any→E 4 = .sl 1 ctx.length (ctx.map ah) .any →
       E 12 = .ptr xh 0→E 14 = .sl 1 sec.length (sec.map ah) .any→E 15 = .ptr qM 0→s9.av xh = some [.v (.int .u64 0),.v (.slice none 0 0)]→s9.av qM = some [.v (.int .u64 pk),z']→dz 2 s s9 z' (k + 1) (aQ eb.cells (L.take (k + 1)))→s.le s9→K3 E s9:=by
      intro E s9 z' f37 f36 f35 f0 f1 f3 f4 f12 f14 f15 j12 j15 jz WT;refine br _ _ ?_;clear br K3;refine jD (Ai @f37 (bj k (by omega))) ?_;refine ⟨⟨k + 1,z',sr,?_,rfl,f36,f35,f0,f1,f3,f4,f12,f14,f15,j12,j15,jz,WT⟩,?_⟩
      ·intro j hj S2;by_cases e : j = k
       ·subst e;rw [JR,← JT]
       ·exact WQ j hj (by omega)
      ·simp only [Md,aF,↓reduceIte];omega
     clear br;rcases kz with ⟨rfl,fX,vW⟩ | ⟨tk,ek,rfl,kT,oR⟩
     ·refine wE fun K hK=>?_;simp only [↓DN,Qa,Qb,Qc,Qd,Qe,Qf,Qg,Qh,reduceCtorEq,↓reduceIte,Na,Nb,Nc,Nk,Nf,Ng,Nh,Za,Zb,Zc,TT,g15,Fh,SW,bO,uA];intro tk kT;have JU:=bf S1 kT;refine hK _ _ (pK _ _ (.sl 2 1 [.v (.int .u64 fr),.sl 1 tx.length (tx.map ah) .any] (.own tk 0)) Md PI g35 g0 g1 g3 g4 g12 g14 g15 ?_ ?_ ?_ ?_)
      ·rw [AS.ao _ (Ne.symm cW)];exact HS
      ·exact AS.ae _ _ _
      ·refine .inr ⟨tk,0,?_,by simp [AS.bC,AS.set],JU⟩;rw [dN,gX,vW];subst fX;rfl
      ·exact AS.aE (AS.bq S1 JU 0) yW _
     ·refine jU (Ai @g15 (Ai @Fh (Ai @SW (Ai @kT @uA)))) fun K hK=>?_;refine ⟨by omega,by omega,?_⟩;refine hK _ _ (pK _ _ (.sl 2 (k + 1) (aQ eb.cells (L.take k) ++ [.v (.int .u64 fr),.sl 1 tx.length (tx.map ah) .any]) (.own tk (ek + 1))) Md PI g35 g0 g1 g3 g4 g12 g14 g15 ?_ ?_ ?_ ?_)
      ·rw [AS.ao _ (Ne.symm cW)];exact HS
      ·exact AS.ae _ _ _
      ·exact .inr ⟨tk,ek + 1,by rw [dN,gX]; rfl,by simp [AS.bC,AS.set],oR⟩
      ·exact AS.aE (AS.bq S1 oR (ek + 1)) yW _
   ·have bI : ¬ ((k : Nat) : Int) < ((RT.length : Nat) : Int):=(by omega);obtain rfl : k = RT.length:=(by omega);obtain ⟨rfl,rfl⟩:=eI (WN rfl fun j h=>BI j h h);refine jB (Ai @PI (Ai @Md (decide_eq_false bI))) ?_;refine wK fun K2 aV=>?_;refine jF ?_;refine aA ?_;simp only [az,ar,if_true];refine hK _ _ ?_;clear hK aV K2 K;rw [List.take_of_length_le (by omega)] at hz;refine jS (Ai @g15 (Ai @g12 (Ai @Fm @yX))) fun K hK=>?_;refine ⟨hz.one,hK _ _ ?_⟩;clear hK K;refine aW ?_;try simp only [az,ar]
    refine kL (o:=xh) (off:=0) g12 (AS.ae _ _ _) (by rw [T.Y5]; decide) (by simp only [↓DN,Qa,Qb,Qc,Qd,Qe,Qf,Qg,Qh,reduceCtorEq,↓reduceIte,Na,Nb,Nc,Nk,Nf,Ng,Nh,Za,Zb,Zc,TT]; rfl) ?_;unfold cu.cells;simp only;rw [Rh];exact ⟨_,s,AV.cO (AV.oD (fU.aB.cons (AV.aB.refl _) (fU.aB.cons hz.aB fU.aB.nil))) (AV.aB.refl _),AS.aE hle SZ _,rfl,rfl⟩
end Go.Proofs.YtbiefppedlodiaaGreatDoor
namespace Go.AM
open Go
def dn : AV→Option Nat
  | .sl _ _ _ (.own t _)=>some t
  | _=>none
def fM (sz : Nat) (s0 s : AS) (x : AV) (n : Nat) (cs : List AV) (x0 : AV) (n0 : Nat) (c0 : List AV) : Prop :=
  (x = x0∧n = n0∧cs = c0)∨∃ t e,x = .sl sz n cs (.own t e)∧s.own t = some e∧s0.own t = none
theorem fM.keep {sz n n0 : Nat} {s0 s s' : AS} {x x0 : AV} {cs c0 : List AV} (h : fM sz s0 s x n cs x0 n0 c0) (k : ∀ t,dn x = some t→s'.own t = s.own t) : fM sz s0 s' x n cs x0 n0 c0:=by
  rcases h with h | ⟨t,e,rfl,h1,h2⟩
  · exact .inl h
  · exact .inr ⟨t,e,rfl,(k t rfl).trans h1,h2⟩
theorem uT {s : AS} {t t' g : Nat} (h : t'≠t) : (s.bC t g).own t' = s.own t':=by simp [AS.bC,aF,h]
theorem fM.bC {sz n n0 g tk : Nat} {s0 s : AS} {x x0 : AV} {cs c0 : List AV} (h : fM sz s0 s x n cs x0 n0 c0) (k : dn x≠some tk) : fM sz s0 (s.bC tk g) x n cs x0 n0 c0 :=
  h.keep fun t ht=>uT fun e=>k (e ▸ ht)
theorem fM.GD {sz n n0 g tk o : Nat} {s0 s : AS} {x x0 : AV} {cs c0 ds : List AV} (h : fM sz s0 s x n cs x0 n0 c0) (k : dn x≠some tk) : fM sz s0 ((s.bC tk g).set o ds) x n cs x0 n0 c0 :=
  h.keep fun t ht=>by
    show (s.bC tk g).own t = _;exact uT fun e=>k (e ▸ ht)
theorem fM.new {sz n n0 t e : Nat} {s0 s : AS} {x0 : AV} {cs c0 : List AV} (h0 : s0.own t = none) (h : s.own t = some e) : fM sz s0 s (.sl sz n cs (.own t e)) n cs x0 n0 c0:=.inr ⟨t,e,rfl,h,h0⟩
theorem fM.fresh {sz n n0 tk : Nat} {s0 s : AS} {x x0 : AV} {cs c0 : List AV} (h : fM sz s0 s x n cs x0 n0 c0) (h0 : dn x0 = none) (k : s.own tk = none) : dn x≠some tk:=by
  rcases h with ⟨rfl,-⟩ | ⟨t,e,rfl,h1,h2⟩
  · rw [h0]; intro h; cases h
  · intro q;simp only [dn,Option.some.injEq] at q;subst q;rw [k] at h1;cases h1
theorem fM.aB {sz n n0 : Nat} {s0 s : AS} {x x0 : AV} {cs c0 : List AV} (h : fM sz s0 s x n cs x0 n0 c0) (k : x0.aB (.sl sz n0 c0 .any)) : x.aB (.sl sz n cs .any):=by
  rcases h with ⟨rfl,rfl,rfl⟩ | ⟨t,e,rfl,h1,h2⟩
  · exact k
  · exact AV.bQ
theorem nK {P : Program} {E : Env} {s : AS} {bS : AV→AS→Prop} {a T t1 t2 t3 t4 o off : Nat} {cs : List AV} {v : AV} (h1 : E a = .ptr o off) (h2 : s.av o = some cs) (h3 : P.cellsOf T≠0) (h4 : nB P T (cs.drop off) = some v)
    (h : ∃ r s',(AV.dX [v,E t1,E t2,E t3,E t4]).aB r∧s'.le s∧bS r s') : b8 P [.cell a T,.tmp t1,.tmp t2,.tmp t3,.tmp t4] bS .ret E s:=by
  simp only [b8,bt,bD,cU,h1,h2,if_neg h3,h4];exact h
theorem AV.Aq {l m : List AV} (h : fU.aB l m) : (AV.dX l).aB (.dX m):=by
  intro G v hv;simp only [au] at hv ⊢;obtain ⟨vs,rfl,h1⟩:=hv;exact ⟨vs,rfl,h G vs h1⟩
theorem ej {P : Program} {Γ : Nat→List AV} {N : Nat} {E : Env} {s : AS} {Q : Exit→Env→AS→Prop} {id : Nat} {L : List Oper} {y : Code}
    (h : ∀ K : Env→AS→Prop,(∀ E s,IK P Γ N y Q E s→K E s)→AY P Γ N L.toArray L K E s) : IK P Γ N (.seq (.region id L.toArray false) y) Q E s :=
  cZ fun K hK=>awp_reg_end fun K2 aV=>h K2 fun E s k=>aV E s (hK E s k)
end Go.AM
namespace Go.Proofs.YtbiefppedlodiaaGreatDoor
open Go Go.AM Go.Proofs Tryz
variable {Γ : Nat→List AV}
def xv : List UInt8:=[108,101,97,102]
def tG (d : List UInt8) : Nat:=cI (Kdf.derive d xv)
def ju (d : List UInt8) : Nat:=3 ^ tG d % PP
def lu (t : List al) (lf : Nat) (fresh : List Int) (i : Nat) : List Int:=bG t (cl (nodeAt lf (aU t) i) : Nat) fresh
def cv (d : List UInt8) (m : Nat) : List Nat:=(List.range m).map fun i=>lq (b7 d (i + 1))
def bN (t : List al) (lf : Nat) (d ctx : List UInt8) (fresh : List Int) (m : Nat) : List cu:=(List.range m).map fun i=>fY t d ctx i (lu t lf fresh i)
def qN (d : List UInt8) (ups : List Nat) (i : Nat) : bB:=⟨(ups.getD i 0 : Nat),lr (b7 d (i + 1))⟩
def cM (lf : Nat) (d : List UInt8) (ups : List Nat) (m : Nat) : List bB:=⟨(2 * lf : Nat),tG d⟩ :: (List.range m).map (qN d ups)
def oS (t : List al) (lf : Nat) (d : List UInt8) (fresh : List Int) (m : Nat) : Bool:=(List.range m).all fun i=>stepG d i (lu t lf fresh i)
structure oT where
 p : dM
 t : List al
 held : List bB
 JV : List UInt8
def oT.no : oT:=⟨⟨0,[],[]⟩,[],[],[]⟩
def uU (t : List al) (lf : Nat) (d : List UInt8) (fresh : List Int) : List al:=iB t lf (ju d) (cv d (aD lf (aU t)).length) fresh
def fG (t : List al) (lf : Nat) (d ctx : List UInt8) (fresh : List Int) : oT :=
 ⟨⟨ju d,(nd (uU t lf d fresh) (2 * lf)).parent,bN t lf d ctx fresh (aD lf (aU t)).length⟩,uU t lf d fresh,cM lf d (aD lf (aU t)) (aD lf (aU t)).length,b7 d ((aD lf (aU t)).length + 1)⟩
def oU (t : List al) (leaf : Int) (d ctx : List UInt8) (fresh : List Int) : oT × Int :=
 if gY t leaf≠0 then (oT.no,gY t leaf) else if d.length≠32 then (oT.no,2) else if nf (ju d) = false then (oT.no,30) else
 if oS t leaf.toNat d fresh (aD leaf.toNat (aU t)).length = false then (oT.no,30) else (fG t leaf.toNat d ctx fresh,0)
theorem yY (d : List UInt8) (i : Nat) : cv d (i + 1) = cv d i ++ [lq (b7 d (i + 1))]:=by simp [cv,List.range_succ]
theorem xw (t : List al) (lf : Nat) (d ctx : List UInt8) (fresh : List Int) (i : Nat) : bN t lf d ctx fresh (i + 1) = bN t lf d ctx fresh i ++ [fY t d ctx i (lu t lf fresh i)]:=by simp [bN,List.range_succ]
theorem yZ (lf : Nat) (d : List UInt8) (ups : List Nat) (i : Nat) : cM lf d ups (i + 1) = cM lf d ups i ++ [qN d ups i]:=by simp [cM,List.range_succ]
theorem Np (d : List UInt8) : tG d < 2 ^ 64:=by have:=tH (Kdf.derive d xv); unfold tG; omega
def Ar (M : oT) (e : Int) : AV:=.dX [.agg M.p.cells,aZ M.t,ec M.held,aj M.JV .any,.v (.int .i64 e)]
theorem GF {t : List al} {lf i : Nat} (cL : Fit (aU t)) (gE : lf < aU t) (lj : t.length = 2 * aU t - 1) (hi : i < (aD lf (aU t)).length) : cl (nodeAt lf (aU t) i) < t.length:=by
 obtain ⟨h1,h2,-⟩:=xx cL gE hi;have:=(As cL h1 h2).2.2.2.2;omega
theorem JW (t : List al) (leaf : Nat) (keys : List Nat) (fresh : List Int) : ∀ i,(vw t leaf keys fresh i).2.length≤32
 | 0=>Nat.zero_le _
 | i + 1=>by
  simp only [vw];unfold pF;split
  ·rw [Sha.dA]; decide
  ·exact Nat.zero_le _
theorem JX (l : List al) {k : Nat} (h : k < l.length) (x : al) : nd (l.set k x) k = x:=by simp [nd,List.getD,h]
theorem HT (t : List al) (leaf key : Nat) (keys : List Nat) (fresh : List Int) (h : 2 * leaf < t.length) : (nd (iB t leaf key keys fresh) (2 * leaf)).parent.length≤32:=by
 unfold iB;simp only;rw [JX _ (by rw [kU]; exact h)];exact JW ..
theorem BJ (dO : Γ 0 = dV Sha.H0) (gl : Γ 1 = Sha.K.map wV) (hG : Γ 3 = eS.map nH) (t : List al) (ht : dS t) (JY : t.length≤2 ^ 30) (hw : ∀ n ∈ t,mA n) (leaf : Int)
  (d ctx : List UInt8) (hd : d.length≤2 ^ 36) (BF : ctx.length≤2 ^ 30) (fresh : List Int) (hf : fresh.length≤2 ^ 40) (s : AS) :
  ai prog Γ 10 [aZ t,.v (.int .i64 leaf),aj d .any,aj ctx .any,aH fresh .any] s (fun r s'=>r = Ar (oU t leaf d ctx fresh).1 (oU t leaf d ctx fresh).2∧s' = s):=by
 refine uP func10 rfl ntmps10 results10 (by simp) ?_;have xy:=fun s=>oV (Γ:=Γ) hG t ht leaf s;have c7:=fun s=>fi (Γ:=Γ) hG t ht s;have Rg:=fun n s=>cb (Γ:=Γ) n s;obtain ⟨R,hR⟩ : ∃ R,R = oU t leaf d ctx fresh:=⟨_,rfl⟩;rw [← hR];obtain ⟨R1,R2⟩:=R;simp only;unfold oU at hR;have ef : ∀ (rm : Nat) (e : Int),R1 = oT.no→R2 = e→∀ (E : Env) (s5 : AS),s.le s5→s5.av rm = some [.v (.int .u64 0),.v (.slice none 0 0),.v (.slice none 0 0)]→E 10 = .ptr rm 0→E 11 = .v (.slice none 0 0)→E 12 = .v (.slice none 0 0)→E 13 = .v (.slice none 0 0)→E 14 = .v (.int .i64 e) →
   b8 prog (#[ResultVar.cell 10 32,ResultVar.tmp 11,ResultVar.tmp 12,ResultVar.tmp 13,ResultVar.tmp 14] : Array ResultVar).toList (fun r s'=>r = Ar R1 R2∧s' = s) .ret E s5:=by
  intro rm e h1 h2 E s5 hle ho f10 f11 f12 f13 f14;subst h1 h2;refine nK (o:=rm) (off:=0) f10 ho (by rw [T.Y4]; decide) (by simp only [↓DN,Qa,Qb,Qc,Qd,Qe,Qf,Qg,Qh,reduceCtorEq,↓reduceIte,Na,Nb,Nc,Nk,Nf,Ng,Nh,Za,Zb,Zc,TT]; rfl) ?_;rw [f11,f12,f13,f14];exact ⟨_,s,AV.Aq (.cons (AV.oD (.cons (AV.aB.refl _) (.cons AV.aI (.cons AV.aI .nil)))) (.cons AV.aI (.cons AV.aI (.cons AV.aI (.cons (AV.aB.refl _) .nil))))),hle,rfl,rfl⟩
 unfold aZ at xy c7 ⊢;unfold aH aj;refine cZ ?_;intro K1 kf;refine jT fun K hK=>?_;intro rm S3;refine hK _ _ (kf _ _ ?_);clear hK K kf K1;have PK:=AS.ae s rm [.v (.int .u64 0),.v (.slice none 0 0),.v (.slice none 0 0)];have hle:=AS.aE (AS.le.refl s) S3 [.v (.int .u64 0),.v (.slice none 0 0),.v (.slice none 0 0)];generalize s.set rm [.v (.int .u64 0),.v (.slice none 0 0),.v (.slice none 0 0)] = s1 at *
 refine cZ ?_;intro K1 kf;refine jK (xy _) ?_;rintro s2 rfl;by_cases he : gY t leaf = 0
 ·have e0 : (gY t leaf != 0) = false:=(by simp [he]);rw [if_neg (by rw [he]; simp)] at hR;refine jB @e0 ?_;refine jF ?_;refine ab ?_;refine kf _ _ ?_;clear kf K1;obtain ⟨hr,hm⟩:=ku.1 he;obtain ⟨lf,rfl⟩:=Int.eq_ofNat_of_zero_le hm.1;obtain ⟨cL,lj⟩ : Fit (aU t)∧t.length = 2 * aU t - 1:=by
   rcases bT (t:=t) with h | h
   ·exact absurd h hr.1
   ·exact h
  have oW:=cL.le;have gE : lf < aU t:=by
   have:=hm.2.1;omega
  refine cZ ?_;intro K1 kf;by_cases nZ : d.length = 32
  ·have e2 : ((d.length : Int) != 32) = false:=(by rw [nZ]; rfl);rw [if_neg (fun k=>k nZ)] at hR;refine jB @e2 ?_;refine jF ?_;refine ab ?_;refine kf _ _ ?_;clear kf K1;have Rj:=fun s=>kg (Γ:=Γ) dO gl d xv hd (by decide) s;have my:=fun s=>ng (Γ:=Γ) dO gl (Kdf.derive d xv) (by rw [gZ]; decide) s;have JO:=fun s=>eH (Γ:=Γ) (tG d) (Np d) s;have GG : ∀ s,ai prog Γ 41 [aj (Kdf.derive d xv) .any] s (fun r s'=>r = .v (.int .u64 (tG d : Nat))∧s' = s):=my;have GH : ∀ s,ai prog Γ 43 [.v (.int .u64 (tG d : Nat))] s (fun r s'=>r = .v (.int .u64 (ju d : Nat))∧s' = s):=JO;clear my JO;have Fo:=fun s=>Rg (ju d) s;generalize Kdf.derive d xv = dl at *
   obtain ⟨ok,iz⟩ : ∃ ok,ok = tG d:=⟨_,rfl⟩;obtain ⟨op,gC⟩ : ∃ op,op = ju d:=⟨_,rfl⟩;rw [← iz] at GG GH;rw [← gC] at GH Fo hR;unfold aj xv at Rj;unfold aj at GG;refine ej ?_;intro K hK;refine jO ?_;refine ad (Rj _) ?_;rintro r s3 ⟨rfl,rfl⟩;refine jM ?_;refine ad (GG _) ?_;rintro r s4 ⟨rfl,rfl⟩;refine jR hK ?_;clear hK K;refine ej ?_;intro K hK;refine jO ?_;refine ad (GH _) ?_;rintro r s5 ⟨rfl,rfl⟩;refine jM ?_;intro Cu Zf;refine hK _ _ ?_;clear hK K;have cW : Cu≠rm:=(fun e=>by subst e; rw [PK] at Zf; cases Zf);have k17 : s5.av Cu = none:=Zf;have Zg:=none_le hle k17;have PL:=(AS.ao s5 (Ne.symm cW) [.v (.int .u64 op),.v (.slice none 0 0),.v (.slice none 0 0)]).trans PK;have Nq:=AS.ae s5 Cu [.v (.int .u64 op),.v (.slice none 0 0),.v (.slice none 0 0)];have WT:=AS.aE hle Zg [.v (.int .u64 op),.v (.slice none 0 0),.v (.slice none 0 0)];generalize s5.set Cu [.v (.int .u64 op),.v (.slice none 0 0),.v (.slice none 0 0)] = s6 at *
   clear PK hle Zf k17;refine cZ ?_;intro K1 kf;obtain ⟨q,hq⟩ : ∃ q,q = nf op:=⟨_,rfl⟩;have JQ : (decide (2≤(op : Int)) && decide ((op : Int)≤2305843009213693949)) = q:=hq.symm;rw [JQ] at Fo;rw [← hq] at hR;refine jS @Nq fun K hK=>?_;refine ad (Fo _) ?_;rintro r s7 ⟨rfl,rfl⟩;cases q with
   | false =>
    rw [if_pos rfl] at hR;refine jR hK ?_;clear hK K;refine jE ?_;refine jB @PL ?_;refine aW ?_;try simp only [az,ar]
    exact ef rm 30 (congrArg (·.1) hR) (congrArg (·.2) hR) _ _ (tF WT S3 _) (AS.ae _ _ _) rfl rfl rfl rfl rfl
   | true =>
    rw [if_neg (by decide)] at hR;refine jR hK ?_;clear hK K;refine jF ?_;refine ab ?_;refine kf _ _ ?_;clear kf K1 Fo GH GG Rj;rw [if_pos hr] at c7;have iC:=fun s=>gT (Γ:=Γ) hG lf (aU t) cL gE s;have EK:=fun s=>hJ (Γ:=Γ) hG lf (aU t) cL gE s;have Fp : (aP (cC lf (aU t))).length = (aD lf (aU t)).length:=(by simp [bo,cC]);have Au:=bo (aD lf (aU t));have vj:=fW cL gE;unfold aH at iC EK;rw [Au] at iC;rw [Fp] at EK;have uA : ∀ a b : AV,mI 2 [a,b] = [a,b]:=fun _ _=>rfl;refine ej ?_;intro K hK;refine jO ?_;refine ad (c7 _) ?_;rintro r s8 ⟨rfl,rfl⟩;refine jR hK ?_;clear hK K;refine ej ?_;intro K hK;refine jP (Ai (ca lf (by omega)) @uA) ?_;refine hK _ _ ?_;clear hK K;refine ej ?_;intro K hK;refine jO ?_;refine ad (EK _) ?_;rintro r s9 ⟨rfl,rfl⟩;refine jR hK ?_;clear hK K;refine ej ?_;intro K hK;refine jO ?_;refine hK _ _ ?_;clear hK K;refine cZ ?_;intro K1 kf;refine jK (iC _) ?_;rintro PM rfl;have Rk : ∀ i,i < (aD lf (aU t)).length→(List.take 1 (List.drop i ((aP (cC lf (aU t))).map aM)))[0]? = some (AV.v (.int .i64 (cl (nodeAt lf (aU t) i) : Nat))):=by
     intro i hi;simp [List.getElem?_take,aP,cC,hi,aM]
    have hUg : ∀ i,i < (aD lf (aU t)).length→(List.take 1 (List.drop i ((aP (aD lf (aU t))).map aM)))[0]? = some (AV.v (.int .i64 ((aD lf (aU t)).getD i 0 : Nat))):=by
     intro i hi;simp [List.getElem?_take,aP,hi,aM]
    have eh:=fun i (hi : i < (aD lf (aU t)).length) s=>BD (Γ:=Γ) dO gl hG t ht hr i (by omega) (cl (nodeAt lf (aU t) i)) (GF cL gE lj hi) d ctx hd BF fresh hf s;have lX:=fun i (hi : i < (aD lf (aU t)).length + 1) s=>oQ (Γ:=Γ) dO gl d hd i (by omega) s;have JZ:=fun key keys hk s=>su (Γ:=Γ) dO gl hG t ht JY hw hr lf hm key keys hk fresh hf s;unfold aZ aj aH at eh;unfold aj at lX;obtain ⟨H0,Zh⟩ : ∃ H0,H0 = AV.sl 2 1 [.v (.int .i64 (2 * lf : Nat)),.v (.int .u64 ok)] .new:=⟨_,rfl⟩;have xfX : ∀ i,lu t lf fresh i = bG t (cl (nodeAt lf (aU t) i) : Nat) fresh:=fun _=>rfl;have Rl : ∀ i,(hi : i < (aD lf (aU t)).length)→∀ s,ai prog Γ 48 [.sl 5 t.length (aQ al.cells t) .any,.v (.int .i64 i),.v (.int .i64 (cl (nodeAt lf (aU t) i) : Nat)),.sl 1 d.length (d.map ah) .any,.sl 1 ctx.length (ctx.map ah) .any,.sl 1 fresh.length (fresh.map aM) .any] s
      (fun r s'=>r = .dX [.agg (if stepG d i (lu t lf fresh i) = true then fY t d ctx i (lu t lf fresh i) else ⟨0,[]⟩).cells,.v (.int .i64 (if stepG d i (lu t lf fresh i) = true then 0 else 30))]∧s' = s):=eh
    clear eh;rw [← Zh];rw [Int.toNat_natCast] at hR;generalize Zi : aQ al.cells t = X at *
    generalize hPe : aD lf (aU t) = P at *
    generalize aP (cC lf (aU t)) = SD at *
    generalize aP P = U at *
    refine ag ?_;refine aC (fun E s2=>∃ (i : Nat) (zP zK zH : AV),i≤P.length∧(∀ j,j < i→stepG d j (lu t lf fresh j) = true)∧E 63 = .v (.int .i64 i)∧E 62 = .v (.int .i64 P.length)∧E 61 = .sl 1 P.length (U.map aM) .any∧E 0 = .sl 5 t.length X .any∧E 1 = .v (.int .i64 lf)∧E 2 = .sl 1 d.length (d.map ah) .any∧E 3 = .sl 1 ctx.length (ctx.map ah) .any∧E 4 = .sl 1 fresh.length (fresh.map aM) .any ∧
      E 10 = .ptr rm 0∧E 17 = .ptr Cu 0∧E 20 = .sl 1 P.length (SD.map aM) .any∧E 21 = zK∧E 19 = zH∧s2.av rm = some [.v (.int .u64 0),.v (.slice none 0 0),.v (.slice none 0 0)]∧s2.av Cu = some [.v (.int .u64 op),.v (.slice none 0 0),zP]∧fM 2 s s2 zP i (aQ cu.cells (bN t lf d ctx fresh i)) bO 0 []∧fM 1 s s2 zK i ((cv d i).map eo) bO 0 []∧fM 2 s s2 zH (i + 1) (aQ bB.cells (cM lf d P i)) H0 1 [.v (.int .i64 (2 * lf : Nat)),.v (.int .u64 ok)] ∧
      (∀ t,dn zP = some t→dn zK≠some t)∧(∀ t,dn zP = some t→dn zH≠some t)∧(∀ t,dn zK = some t→dn zH≠some t)∧s.le s2)
     (fun E _=>match E 63 with | .v (.int _ i)=>P.length - i.toNat | _=>0) ?_ ?_
    ·exact ⟨0,bO,bO,H0,Nat.zero_le _,fun j h=>absurd h (Nat.not_lt_zero _),rfl,rfl,rfl,rfl,rfl,rfl,rfl,rfl,rfl,rfl,rfl,rfl,rfl,PL,Nq,.inl ⟨rfl,rfl,rfl⟩,.inl ⟨rfl,rfl,rfl⟩,
      .inl ⟨rfl,rfl,by rw [iz]; rfl⟩,(fun t h=>by cases h),(fun t h=>by cases h),(fun t h=>by cases h),WT⟩
    ·clear PL Nq WT;rintro E1 PN ⟨i,zP,zK,zH,hi,BI,S4,J0,Rm,g0,g1,g2,g3,g4,g10,g17,g20,g21,g19,PL,Nq,bP,bK,bH,dPK,dPH,dKH,hle⟩ -
     by_cases aX : i < P.length
     ·have bI : ((i : Nat) : Int) < ((P.length : Nat) : Int):=(by omega);have cz : (0 : Int)≤((i : Nat) : Int):=(by omega);have Ho:=Rk i aX;have hup:=hUg i aX;have c1:=fun s=>Rl i aX s;have c2:=fun s=>lX i (by omega) s;have tb:=pE d i;have c3:=fun s=>lY (Γ:=Γ) dO gl (b7 d (i + 1)) (by omega) s;refine jB (Ai @J0 (Ai @S4 (decide_eq_true bI))) ?_;refine wK fun K2 aV=>?_;refine jE ?_;refine ab ?_;refine aV _ _ ?_;clear aV K2;refine wK fun K3 br=>?_;refine ag ?_;refine jB (Ai @Rm (Ai @S4 (Ai @bI (Ai @cz @hup)))) ?_;cases JR : stepG d i (lu t lf fresh i) with
      | false =>
       have hRb : R1 = oT.no∧R2 = 30:=by
        have hb : oS t lf d fresh P.length = false:=by
         unfold oS;rw [List.all_eq_false];exact ⟨i,List.mem_range.2 aX,by rw [JR]; decide⟩
        rw [if_pos hb] at hR;exact ⟨congrArg (·.1) hR,congrArg (·.2) hR⟩
       simp only [JR,Bool.false_eq_true,if_false,cu.cells] at c1;refine aY 24 (by decide) ?_;intro K4 ee;refine jN (Ai @g20 (Ai @g0 (Ai @g2 (Ai @g3 (Ai @g4 (Ai @bI (Ai @cz @Ho))))))) ?_;refine ad (c1 _) ?_;rintro r s12 ⟨rfl,rfl⟩;refine jM ?_;intro o2 q2;refine ee _ _ o2 _ rfl q2 ?_;clear ee K4 q2;refine wK fun K4 ee=>?_;have e30 : ((30 : Int) != 0) = true:=rfl;refine jB @e30 ?_;refine jE ?_;refine jB (Ai @g10 @PL) ?_;refine aW ?_;try simp only [az,ar]
       exact ef rm 30 hRb.1 hRb.2 _ _ (tF hle S3 _) (AS.ae _ _ _) g10 rfl rfl rfl rfl
      | true =>
       simp only [JR,if_true] at c1;have PJ : ((0 : Int) != 0) = false:=rfl;have ik:=xw t lf d ctx fresh i;have nY:=yY d i;have Me:=yZ lf d P i;have hSk : (fY t d ctx i (lu t lf fresh i)).key = lq (b7 d (i + 1)):=rfl;have hSh : qN d P i = ⟨(P.getD i 0 : Nat),lr (b7 d (i + 1))⟩:=rfl;rw [hSh] at Me;rw [← hSk] at nY;generalize fY t d ctx i (lu t lf fresh i) = S at *
       generalize lr (b7 d (i + 1)) = ky at *
       generalize b7 d (i + 1) = sc at *
       obtain ⟨sk,sl⟩:=S;simp only [cu.cells] at c1;simp only at nY;have hSc : aQ cu.cells [⟨sk,sl⟩] = [.v (.int .u64 (sk : Nat)),.sl 2 sl.length (aQ eb.cells sl) .any]:=rfl;generalize aQ eb.cells sl = SL at *
       unfold aj at c3;refine aY 24 (by decide) ?_;intro K4 ee;refine jN (Ai @g20 (Ai @g0 (Ai @g2 (Ai @g3 (Ai @g4 (Ai @bI (Ai @cz @Ho))))))) ?_;refine ad (c1 _) ?_;rintro r s12 ⟨rfl,rfl⟩;refine jM ?_;intro o2 q2;refine ee _ _ o2 _ rfl q2 ?_;clear ee K4 q2;refine wK fun K4 ee=>?_;refine jB @PJ ?_;refine jF ?_;refine ab ?_;refine ee _ _ ?_;clear ee K4;have WU : dn H0 = none:=(by rw [Zh]; rfl);have PO : ∀ (L : List Nat) (x : Nat),(L ++ [x]).map eo = L.map eo ++ [.v (.int .u64 (x : Nat))]:=(fun L x=>by simp [eo]);obtain ⟨F,hF⟩ : ∃ F : Env→Prop,F = fun E=>E 63 = .v (.int .i64 i)∧E 62 = .v (.int .i64 P.length)∧E 61 = .sl 1 P.length (U.map aM) .any∧E 0 = .sl 5 t.length X .any∧E 1 = .v (.int .i64 lf)∧E 2 = .sl 1 d.length (d.map ah) .any∧E 3 = .sl 1 ctx.length (ctx.map ah) .any∧E 4 = .sl 1 fresh.length (fresh.map aM) .any∧E 10 = .ptr rm 0∧E 17 = .ptr Cu 0∧E 20 = .sl 1 P.length (SD.map aM) .any:=⟨_,rfl⟩;have Zj : ∀ (E : Env) (s7 : AS) (zP zK zH : AV),F E→E 21 = zK→E 19 = zH→s7.av rm = some [.v (.int .u64 0),.v (.slice none 0 0),.v (.slice none 0 0)]→s7.av Cu = some [.v (.int .u64 op),.v (.slice none 0 0),zP]→fM 2 s s7 zP (i + 1) (aQ cu.cells (bN t lf d ctx fresh (i + 1))) bO 0 []→fM 1 s s7 zK (i + 1) ((cv d (i + 1)).map eo) bO 0 []→fM 2 s s7 zH (i + 1 + 1) (aQ bB.cells (cM lf d P (i + 1))) H0 1 [.v (.int .i64 (2 * lf : Nat)),.v (.int .u64 ok)] →
         (∀ t,dn zP = some t→dn zK≠some t)→(∀ t,dn zP = some t→dn zH≠some t)→(∀ t,dn zK = some t→dn zH≠some t)→s.le s7→K3 E s7:=by
        intro E s7 zP zK zH fF f21 f19 Fq Fs Nr Rn Ro x1 x2 x3 Ns;rw [hF] at fF;obtain ⟨f63,f62,f61,f0,f1,f2,f3,f4,f10,f17,f20⟩:=fF;refine br _ _ ?_;clear br K3;refine jD (Ai @f63 (bj i (by omega))) ?_;refine ⟨⟨i + 1,zP,zK,zH,aX,?_,rfl,f62,f61,f0,f1,f2,f3,f4,f10,f17,f20,f21,f19,Fq,Fs,Nr,Rn,Ro,x1,x2,x3,Ns⟩,?_⟩
        ·intro j hj;by_cases e : j = i
         ·subst e;exact JR
         ·exact BI j (by omega)
        ·simp only [S4,aF,↓reduceIte];omega
       clear br;refine wK fun K5 kt=>?_;have hJ5 : ∀ (E : Env) (s5 : AS) (zP : AV),F E→E 22 = .v (.int .i64 i)→E 23 = .v (.int .i64 (P.getD i 0 : Nat))→E 24 = .dc [.v (.int .u64 sk),.sl 2 sl.length SL .any]→E 21 = zK→E 19 = zH→s5.av rm = some [.v (.int .u64 0),.v (.slice none 0 0),.v (.slice none 0 0)]→s5.av Cu = some [.v (.int .u64 op),.v (.slice none 0 0),zP]→fM 2 s s5 zP (i + 1) (aQ cu.cells (bN t lf d ctx fresh (i + 1))) bO 0 []→fM 1 s s5 zK i ((cv d i).map eo) bO 0 []→fM 2 s s5 zH (i + 1) (aQ bB.cells (cM lf d P i)) H0 1 [.v (.int .i64 (2 * lf : Nat)),.v (.int .u64 ok)] →
         (∀ t,dn zP = some t→dn zK≠some t)→(∀ t,dn zP = some t→dn zH≠some t)→(∀ t,dn zK = some t→dn zH≠some t)→s.le s5→K5 E s5:=by
        intro E s5 zP fF f22 f23 f24 f21 f19 Fq Fs Nr Rn Ro x1 x2 x3 Ns;refine kt _ _ ?_;clear kt K5;clear bP bK bH;refine wK fun K6 kV=>?_;have hJ6 : ∀ (E : Env) (s6 : AS) (zK : AV),F E→E 22 = .v (.int .i64 i)→E 23 = .v (.int .i64 (P.getD i 0 : Nat))→E 21 = zK→E 19 = zH→s6.av rm = some [.v (.int .u64 0),.v (.slice none 0 0),.v (.slice none 0 0)]→s6.av Cu = some [.v (.int .u64 op),.v (.slice none 0 0),zP]→fM 2 s s6 zP (i + 1) (aQ cu.cells (bN t lf d ctx fresh (i + 1))) bO 0 []→fM 1 s s6 zK (i + 1) ((cv d (i + 1)).map eo) bO 0 []→fM 2 s s6 zH (i + 1) (aQ bB.cells (cM lf d P i)) H0 1 [.v (.int .i64 (2 * lf : Nat)),.v (.int .u64 ok)] →
          (∀ t,dn zP = some t→dn zK≠some t)→(∀ t,dn zP = some t→dn zH≠some t)→(∀ t,dn zK = some t→dn zH≠some t)→s.le s6→K6 E s6:=by
         intro E s6 zK fF f22 f23 f21 f19 Fq Fs Nr Rn Ro x1 x2 x3 Ns;refine kV _ _ ?_;clear kV K6;have WV:=fF;rw [hF] at WV;obtain ⟨f63,f62,f61,f0,f1,f2,f3,f4,f10,f17,f20⟩:=WV;rcases Ro with ⟨rfl,fX,L4⟩ | ⟨tk,ek,rfl,Mf,lh⟩
         ·rw [Zh] at f19;refine jU (Ai @f2 (Ai @f22 (Ai @f19 @f23))) fun K hK=>?_;refine ad (c2 _) ?_;rintro r s8 ⟨rfl,rfl⟩;refine jM ?_;refine ad (c3 _) ?_;rintro r s9 ⟨rfl,rfl⟩;refine jN (Ai @f19 (Ai @f23 @uA)) ?_;intro tk dN;have JU:=bf Ns dN;have fP:=Nr.fresh rfl dN;have fK:=Rn.fresh rfl dN;refine hK _ _ (Zj _ _ zP zK (.sl 2 2 [.v (.int .i64 (2 * lf : Nat)),.v (.int .u64 ok),.v (.int .i64 (P.getD i 0 : Nat)),.v (.int .u64 ky)] (.own tk 0)) (by rw [hF]; exact ⟨f63,f62,f61,f0,f1,f2,f3,f4,f10,f17,f20⟩) f21 rfl Fq Fs (Nr.bC fP) (Rn.bC fK) ?_ x1 ?_ ?_ (AS.bq Ns JU 0))
          ·rw [Me,gX,L4,show i = 0 by omega];exact fM.new JU (by simp [AS.bC])
          ·intro t h1 h2;simp only [dn,Option.some.injEq] at h2;subst h2;exact fP h1
          ·intro t h1 h2;simp only [dn,Option.some.injEq] at h2;subst h2;exact fK h1
         ·refine jU (Ai @f2 (Ai @f22 (Ai @f19 @f23))) fun K hK=>?_;refine ad (c2 _) ?_;rintro r s8 ⟨rfl,rfl⟩;refine jM ?_;refine ad (c3 _) ?_;rintro r s9 ⟨rfl,rfl⟩;refine jN (Ai @f19 (Ai @f23 (Ai @uA @Mf))) ?_;have fP : dn zP≠some tk:=fun q=>x2 _ q rfl;have fK : dn zK≠some tk:=fun q=>x3 _ q rfl;refine ⟨by omega,by omega,hK _ _ (Zj _ _ zP zK (.sl 2 (i + 1 + 1) (aQ bB.cells (cM lf d P i) ++ [.v (.int .i64 (P.getD i 0 : Nat)),.v (.int .u64 ky)]) (.own tk (ek + 1))) (by rw [hF]; exact ⟨f63,f62,f61,f0,f1,f2,f3,f4,f10,f17,f20⟩) f21 rfl Fq Fs (Nr.bC fP) (Rn.bC fK) ?_ x1 ?_ ?_ (AS.bq Ns lh (ek + 1)))⟩
          ·rw [Me,gX];exact fM.new lh (by simp [AS.bC])
          ·intro t h1 h2;simp only [dn,Option.some.injEq] at h2;subst h2;exact fP h1
          ·intro t h1 h2;simp only [dn,Option.some.injEq] at h2;subst h2;exact fK h1
        have WV:=fF;rw [hF] at WV;obtain ⟨f63,f62,f61,f0,f1,f2,f3,f4,f10,f17,f20⟩:=WV;clear Zj;rcases Rn with ⟨rfl,fX,L4⟩ | ⟨tk,ek,rfl,Mf,lh⟩
        ·refine wE fun K hK=>?_;simp only [↓DN,Qa,Qb,Qc,Qd,Qe,Qf,Qg,Qh,reduceCtorEq,↓reduceIte,Na,Nb,Nc,Nk,Nf,Ng,Nh,Za,Zb,Zc,TT,f21,f24,bO,List.replicate_succ];intro tk dN;have JU:=bf Ns dN;have fP:=Nr.fresh rfl dN;have fH:=Ro.fresh WU dN;refine hK _ _ (hJ6 _ _ (.sl 1 1 [.v (.int .u64 sk)] (.own tk 0)) (by rw [hF]; exact ⟨f63,f62,f61,f0,f1,f2,f3,f4,f10,f17,f20⟩) f22 f23 rfl f19 Fq Fs (Nr.bC fP) ?_ (Ro.bC fH) ?_ x2 ?_ (AS.bq Ns JU 0))
         ·rw [nY,PO,L4,show i = 0 by omega];exact fM.new JU (by simp [AS.bC])
         ·intro t h1 h2;simp only [dn,Option.some.injEq] at h2;subst h2;exact fP h1
         ·intro t h1 h2;simp only [dn,Option.some.injEq] at h1;subst h1;exact fH h2
        ·refine wE fun K hK=>?_;simp only [↓DN,Qa,Qb,Qc,Qd,Qe,Qf,Qg,Qh,reduceCtorEq,↓reduceIte,Na,Nb,Nc,Nk,Nf,Ng,Nh,Za,Zb,Zc,TT,f21,f24,Mf,List.replicate_succ];have fP : dn zP≠some tk:=fun q=>x1 _ q rfl;have fH : dn zH≠some tk:=x3 _ rfl;refine ⟨by omega,by omega,hK _ _ (hJ6 _ _ (.sl 1 (i + 1) ((cv d i).map eo ++ [.v (.int .u64 sk)]) (.own tk (ek + 1))) (by rw [hF]; exact ⟨f63,f62,f61,f0,f1,f2,f3,f4,f10,f17,f20⟩) f22 f23 rfl f19 Fq Fs (Nr.bC fP) ?_ (Ro.bC fH) ?_ x2 ?_ (AS.bq Ns lh (ek + 1)))⟩
         ·rw [nY,PO];exact fM.new lh (by simp [AS.bC])
         ·intro t h1 h2;simp only [dn,Option.some.injEq] at h2;subst h2;exact fP h1
         ·intro t h1 h2;simp only [dn,Option.some.injEq] at h1;subst h1;exact fH h2
       clear Zj;have WW : s.av Cu = none:=Zg;rcases bP with ⟨rfl,fX,L4⟩ | ⟨tk,ek,rfl,Mf,lh⟩
       ·refine wE fun K hK=>?_;simp only [↓DN,Qa,Qb,Qc,Qd,Qe,Qf,Qg,Qh,reduceCtorEq,↓reduceIte,Na,Nb,Nc,Nk,Nf,Ng,Nh,Za,Zb,Zc,TT,g17,Nq,bO,uA];intro tk dN;have JU:=bf hle dN;have fK:=bK.fresh rfl dN;have fH:=bH.fresh WU dN;refine hK _ _ (hJ5 _ _ (.sl 2 1 [.v (.int .u64 sk),.sl 2 sl.length SL .any] (.own tk 0)) (by rw [hF]; exact ⟨S4,J0,Rm,g0,g1,g2,g3,g4,g10,g17,g20⟩) rfl rfl rfl g21 g19 ?_ (AS.ae _ _ _) ?_ (bK.GD fK) (bH.GD fH) ?_ ?_ dKH (AS.aE (AS.bq hle JU 0) WW _))
        ·rw [AS.ao _ (Ne.symm cW)];exact PL
        ·rw [ik,gX,hSc,L4,show i = 0 by omega];exact fM.new JU (by simp [AS.bC,AS.set])
        ·intro t h1 h2;simp only [dn,Option.some.injEq] at h1;subst h1;exact fK h2
        ·intro t h1 h2;simp only [dn,Option.some.injEq] at h1;subst h1;exact fH h2
       ·refine jU (Ai @g17 (Ai @Nq (Ai @Mf @uA))) fun K hK=>?_;have fK : dn zK≠some tk:=dPK _ rfl;have fH : dn zH≠some tk:=dPH _ rfl;refine ⟨by omega,by omega,hK _ _ (hJ5 _ _ (.sl 2 (i + 1) (aQ cu.cells (bN t lf d ctx fresh i) ++ [.v (.int .u64 sk),.sl 2 sl.length SL .any]) (.own tk (ek + 1))) (by rw [hF]; exact ⟨S4,J0,Rm,g0,g1,g2,g3,g4,g10,g17,g20⟩) rfl rfl rfl g21 g19 ?_ (AS.ae _ _ _) ?_ (bK.GD fK) (bH.GD fH) ?_ ?_ dKH (AS.aE (AS.bq hle lh (ek + 1)) WW _))⟩
        ·rw [AS.ao _ (Ne.symm cW)];exact PL
        ·rw [ik,gX,hSc];exact fM.new lh (by simp [AS.bC,AS.set])
        ·intro t h1 h2;simp only [dn,Option.some.injEq] at h1;subst h1;exact fK h2
        ·intro t h1 h2;simp only [dn,Option.some.injEq] at h1;subst h1;exact fH h2
     ·have bI : ¬ ((i : Nat) : Int) < ((P.length : Nat) : Int):=(by omega);obtain rfl : i = P.length:=(by omega);have hG : oS t lf d fresh P.length = true:=by
       unfold oS;rw [List.all_eq_true];intro j hj;exact BI j (List.mem_range.1 hj)
      rw [if_neg (by rw [hG]; decide)] at hR;have tI : (cv d P.length).length = P.length:=(by simp [cv]);have WX : (bN t lf d ctx fresh P.length).length = P.length:=(by simp [bN]);have hHl : (cM lf d P P.length).length = P.length + 1:=(by simp [cM]);have Zk:=fun s=>ai.gz (.cons (.refl _) (.cons (.refl _) (.cons (.refl _) (.cons (bK.aB AV.aI) (.cons (.refl _) .nil))))) (by
       have:=JZ op (cv d P.length) tI s;unfold uV aZ aH at this;rw [Zi,tI] at this;exact this)
      have hMU : uU t lf d fresh = iB t lf op (cv d P.length) fresh:=(by unfold uU; rw [hPe,← gC]);have WY : R1 = fG t lf d ctx fresh∧R2 = 0:=⟨congrArg (·.1) hR,congrArg (·.2) hR⟩;have hMV : fG t lf d ctx fresh = ⟨⟨op,(nd (iB t lf op (cv d P.length) fresh) (2 * lf)).parent,bN t lf d ctx fresh P.length⟩,iB t lf op (cv d P.length) fresh,cM lf d P P.length,b7 d (P.length + 1)⟩:=by
       unfold fG;rw [hMU,hPe,← gC]
      rw [hMV] at WY;have c2:=fun s=>lX P.length (by omega) s;obtain ⟨u,hu⟩ : ∃ u,u = iB t lf op (cv d P.length) fresh:=⟨_,rfl⟩;rw [← hu] at Zk WY;have hul : u.length = t.length:=(by rw [hu]; unfold iB; simp only [List.length_set]; exact kU ..);have hut : 2 * lf < u.length:=(by omega);have dw:=dm hut;have mz : (0 : Int)≤((2 * lf : Nat) : Int):=(by omega);have jc : ((2 * lf : Nat) : Int) < ((u.length : Nat) : Int):=(by omega);have eV:=fun s=>fB (Γ:=Γ) (nd u (2 * lf)).parent s (by
       have:=HT t lf op (cv d P.length) fresh (show 2 * lf < t.length by omega);rw [← hu] at this;omega)
      generalize hZ : aQ al.cells u = Z at *
      generalize nd u (2 * lf) = N at *
      obtain ⟨n1,n2,n3,n4,n5⟩:=N;unfold al.cells at dw;unfold aj at eV dw;simp only at eV WY;refine jB (Ai @J0 (Ai @S4 (decide_eq_false bI))) ?_;refine wK fun K2 aV=>?_;refine jF ?_;refine aA ?_;simp only [az,ar,if_true];refine kf _ _ ?_;clear kf aV K2 K1;refine ej ?_;intro K hK;refine jP (Ai @g0 (Ai @g1 (Ai @g17 (Ai @Nq (Ai @g21 @g4))))) ?_;refine ad (Zk _) ?_;rintro r s12 ⟨rfl,rfl⟩;refine jR hK ?_;clear hK K;refine ej ?_;intro K hK;refine jP (Ai @g1 (Ai @g17 (Ai @Nq (Ai (ca lf (by omega)) (Ai @mz (Ai @jc @dw)))))) ?_;refine ad (eV _) ?_;rintro r s13 ⟨rfl,rfl⟩;refine jV (Ai @g17 @Nq) hK ?_;clear hK K;refine Ag (gK.ml (d:=17) (o:=Cu) (cs:=[.v (.int .u64 op),.sl 1 n4.length (n4.map ah) .any,zP]) g17 (AS.ae _ _ _)) (ch.g ?_);have Gv : ((s13.set Cu [.v (.int .u64 op),.sl 1 n4.length (n4.map ah) .any,zP]).drop Cu).av rm = some [.v (.int .u64 0),.v (.slice none 0 0),.v (.slice none 0 0)]:=by
       rw [← PL];simp [AS.drop,AS.set,aF,Ne.symm cW]
      have S1 : s.le ((s13.set Cu [.v (.int .u64 op),.sl 1 n4.length (n4.map ah) .any,zP]).drop Cu):=AS.rE (AS.aE hle Zg _) Zg;generalize (s13.set Cu [.v (.int .u64 op),.sl 1 n4.length (n4.map ah) .any,zP]).drop Cu = s14 at *
      have wH:=bH.aB (by rw [Zh]; exact AV.bQ);have wP:=bP.aB AV.aI;have hPn : bO = AV.v (.slice none 0 0):=rfl;have bX : ∀ (E : Env),E 10 = .ptr rm 0→E 11 = .sl 5 u.length Z .any→E 12 = zH→E 13 = .sl 1 (b7 d (P.length + 1)).length ((b7 d (P.length + 1)).map ah) .any→E 14 = .v (.int .i64 0) →
        b8 prog (#[ResultVar.cell 10 32,ResultVar.tmp 11,ResultVar.tmp 12,ResultVar.tmp 13,ResultVar.tmp 14] : Array ResultVar).toList (fun r s'=>r = Ar R1 R2∧s' = s) .ret E (s14.set rm [.v (.int .u64 op),.sl 1 n4.length (n4.map ah) .any,zP]):=by
       intro E f10 f11 f12 f13 f14;refine nK (o:=rm) (off:=0) f10 (AS.ae _ _ _) (by rw [T.Y4]; decide) (by simp only [↓DN,Qa,Qb,Qc,Qd,Qe,Qf,Qg,Qh,reduceCtorEq,↓reduceIte,Na,Nb,Nc,Nk,Nf,Ng,Nh,Za,Zb,Zc,TT]; rfl) ?_;rw [f11,f12,f13,f14,WY.1,WY.2];unfold Ar aZ ec aj dM.cells;simp only;rw [WX,hHl,hZ];exact ⟨_,s,AV.Aq (.cons (AV.oD (.cons (AV.aB.refl _) (.cons (AV.aB.refl _) (.cons wP .nil)))) (.cons (AV.aB.refl _) (.cons wH (.cons (AV.aB.refl _) (.cons (AV.aB.refl _) .nil))))),AS.aE S1 S3 _,rfl,rfl⟩
      rcases bP with ⟨rfl,fX,-⟩ | ⟨tk,ek,rfl,-,-⟩
      ·rw [fX] at c2 bX;refine oL T.mixed [8] [(1007,.sl 1 (b7 d (0 + 1)).length ((b7 d (0 + 1)).map ah) .any)] [0,1,2,3,4,5,6,7,8,9,10,11,12] (by kernel_rfl) ?_;intro K hK;simp only [↓vT,↓sg,↓mY,↓m6,Nat.reduceAdd,↓mZ,px,mX,qG,bY,DX,Nat.reduceBEq,List.toList_toArray,List.map_cons,List.map_nil,aL,↓DN,Qa,Qb,Qc,Qd,Qe,Qf,Qg,Qh,reduceCtorEq,↓reduceIte,Na,Nb,Nc,Nk,Nf,Ng,Nh,Za,Zb,Zc,TT,g2,g19,g10,Gv,hPn];refine Gt c2 ?_;refine hK _ _ ?_;clear hK K;refine aW ?_;try simp only [az,ar]
       exact bX _ g10 rfl rfl rfl rfl
      ·refine oL T.mixed [8] [(1007,.sl 1 (b7 d (P.length + 1)).length ((b7 d (P.length + 1)).map ah) .any)] [0,1,2,3,4,5,6,7,8,9,10,11,12] (by kernel_rfl) ?_;intro K hK;simp only [↓vT,↓sg,↓mY,↓m6,Nat.reduceAdd,↓mZ,px,mX,qG,bY,DX,Nat.reduceBEq,List.toList_toArray,List.map_cons,List.map_nil,aL,↓DN,Qa,Qb,Qc,Qd,Qe,Qf,Qg,Qh,reduceCtorEq,↓reduceIte,Na,Nb,Nc,Nk,Nf,Ng,Nh,Za,Zb,Zc,TT,g2,g19,g10,Gv];refine Gt c2 ?_;refine hK _ _ ?_;clear hK K;refine aW ?_;try simp only [az,ar]
       exact bX _ g10 rfl rfl rfl rfl
  ·have e2 : ((d.length : Int) != 32) = true:=by
    rw [bne_iff_ne];omega
   rw [if_pos nZ] at hR;refine jB @e2 ?_;refine jE ?_;refine jB @PK ?_;refine aW ?_;try simp only [az,ar]
   exact ef rm 2 (congrArg (·.1) hR) (congrArg (·.2) hR) _ _ (tF hle S3 _) (AS.ae _ _ _) rfl rfl rfl rfl rfl
 ·have e0 : (gY t leaf != 0) = true:=(by simp [he]);rw [if_pos he] at hR;refine jB @e0 ?_;refine jE ?_;refine jB @PK ?_;refine aW ?_;try simp only [az,ar]
  exact ef rm _ (congrArg (·.1) hR) (congrArg (·.2) hR) _ _ (tF hle S3 _) (AS.ae _ _ _) rfl rfl rfl rfl rfl
theorem BK {t : List al} {leaf : Int} {d ctx : List UInt8} {fresh : List Int} (h : (oU t leaf d ctx fresh).2 = 0) :
    gY t leaf = 0∧d.length = 32∧nf (ju d) = true∧oS t leaf.toNat d fresh (aD leaf.toNat (aU t)).length = true∧(oU t leaf d ctx fresh).1 = fG t leaf.toNat d ctx fresh:=by
  unfold oU at h ⊢;by_cases h1 : gY t leaf = 0
  · rw [if_neg (fun k=>k h1)] at h ⊢;by_cases h2 : d.length = 32
    · rw [if_neg (fun k=>k h2)] at h ⊢;cases h3 : nf (ju d) with
      | false=>rw [h3,if_pos rfl] at h; cases h
      | true =>
        rw [h3,if_neg (by decide)] at h;rw [if_neg (by decide)];cases h4 : oS t leaf.toNat d fresh (aD leaf.toNat (aU t)).length with
        | false=>rw [h4,if_pos rfl] at h; cases h
        | true=>exact ⟨h1,h2,rfl,rfl,by rw [if_neg (by decide)]⟩
    · rw [if_pos h2] at h;cases h
  · rw [if_pos h1] at h;exact absurd h h1
theorem Dy {t : List al} {lf : Nat} {d : List UInt8} {fresh : List Int} {m i : Nat} (h : oS t lf d fresh m = true) (hi : i < m) : stepG d i (lu t lf fresh i) = true:=by
  unfold oS at h;rw [List.all_eq_true] at h;exact h i (List.mem_range.2 hi)
theorem HU {d : List UInt8} {i : Nat} {RT : List Int} (h : stepG d i RT = true) : nf (lq (b7 d (i + 1))) = true:=by
  unfold stepG at h;rw [Bool.and_eq_true] at h;exact h.1
theorem Av (t : List al) (d ctx : List UInt8) (i : Nat) (RT : List Int) : (fY t d ctx i RT).key = lq (b7 d (i + 1)):=by unfold fY; exact Eq.refl _
theorem tJ (t : List al) (d ctx : List UInt8) (i : Nat) (RT : List Int) : (fY t d ctx i RT).di.length = RT.length:=by unfold fY; exact List.length_map _
theorem sv (t : List al) (lf : Nat) (d ctx : List UInt8) (fresh : List Int) {m i : Nat} (h : i < m) : (bN t lf d ctx fresh m).getD i ⟨0,[]⟩ = fY t d ctx i (lu t lf fresh i):=by
  simp [bN,List.getD,h]
theorem Dz (t : List al) (lf : Nat) (d ctx : List UInt8) (fresh : List Int) (m : Nat) : (bN t lf d ctx fresh m).map (·.key) = cv d m:=by
  unfold bN cv;rw [List.map_map];refine List.map_congr_left fun i _=>?_;rw [Function.comp_apply,Av]
theorem Ft {t : List al} {lf : Nat} {d ctx : List UInt8} {fresh : List Int} (h : (oU t lf d ctx fresh).2 = 0) : oX t lf (fG t lf d ctx fresh).p fresh = (uU t lf d fresh,0):=by
  obtain ⟨h1,-,h3,h4,-⟩:=BK h;rw [Int.toNat_natCast] at h4;have hl : (bN t lf d ctx fresh (aD lf (aU t)).length).length = (aD lf (aU t)).length:=(by simp [bN]);have hs : tK t lf fresh (bN t lf d ctx fresh (aD lf (aU t)).length) = true:=by
    unfold tK;rw [List.all_eq_true,hl];intro i hi;have aX:=List.mem_range.1 hi;rw [sv t lf d ctx fresh aX];unfold Aw;rw [Bool.and_eq_true];rw [Av,tJ];refine ⟨HU (Dy h4 aX),?_⟩;rw [decide_eq_true_iff];unfold lu;exact Eq.refl _
  unfold oX fG;simp only [Int.toNat_natCast];rw [if_neg (fun k=>k h1),if_neg (by rw [hl,h3]; simp),if_neg (by rw [hs]; simp),Dz];have hU : iB t lf (ju d) (cv d (aD lf (aU t)).length) fresh = uU t lf d fresh:=(by unfold uU; rfl);rw [hU,if_pos rfl]
theorem sw (d : List UInt8) (a : Nat) : ∀ i,b7 (b7 d a) i = b7 d (a + i)
  | 0=>rfl
  | i + 1=>by rw [b7,sw d a i]; rfl
theorem DA {x : Int} : ∀ {l : List Int},x ∈ l→∃ i,∃ hi : i < l.length,l[i] = x∧∀ j (hj : j < l.length),j < i→l[j]≠x
  | [],h=>by cases h
  | y :: l,h=>by
    by_cases e : y = x
    · exact ⟨0,by simp,e,fun j _ h=>absurd h (Nat.not_lt_zero _)⟩
    · obtain ⟨i,hi,h1,h2⟩:=DA ((List.mem_cons.1 h).resolve_left (fun k=>e k.symm));refine ⟨i + 1,by simpa using hi,by simpa using h1,?_⟩;intro j hj Eu;cases j with
      | zero=>simpa using e
      | succ j=>simpa using h2 j (by simpa using hj) (by omega)
theorem Fu (d : List UInt8) (lf : Nat) (P : List Nat) (a : Nat) (ha : a≤P.length) : dk (b7 d (a + 1)) (P.drop a) = (cM lf d P P.length).drop (1 + a):=by
  apply List.ext_getElem
  · simp [dk,cM];omega
  · intro i h1 h2;rw [fj,List.length_drop] at h1;have e1 : (P.drop a).getD i 0 = P.getD (a + i) 0:=(by simp [List.getD,List.getElem?_drop]);have e2 : a + 1 + i = a + i + 1:=(by omega);have e3 : 1 + a + i = (a + i) + 1:=(by omega);simp only [dk,List.getElem_map,List.getElem_range,List.getElem_drop,cM,e3,List.getElem_cons_succ,qN,e1,sw,e2]
theorem J1 (d : List UInt8) (a n : Nat) (pub : Nat→Nat) (h : ∀ i,i < n→pub i = lq (b7 d (a + i + 1))) : lZ (b7 d (a + 1)) n pub = true :=
  oY fun j hj=>by rw [h j hj,sw,show a + 1 + j = a + j + 1 by omega]
theorem y7 (dO : Γ 0 = dV Sha.H0) (gl : Γ 1 = Sha.K.map wV) (hG : Γ 3 = eS.map nH) (t : List al) (ht : dS t) (JY : t.length≤2 ^ 30) (hw : ∀ n ∈ t,mA n) (lf : Nat)
    (d ctx : List UInt8) (BF : ctx.length≤2 ^ 30) (fresh : List Int) (hf : fresh.length≤2 ^ 40) (L7 : (oU t lf d ctx fresh).2 = 0) (ow : Nat) (BL : cF t ow) (cW : ow≠lf) (hnf : (ow : Int) ∉ fresh)
    (a : Nat) (ha : Nt lf (aU t) ow = (a : Int)) (mb : a < (aD lf (aU t)).length) (x : Nat) (hx : (x : Int) ∈ lu t lf fresh a) (k : Nat) (hk : (nd t x).key = 3 ^ k % PP) (IJ : 1≤k∧k≤2305843009213693949) (s : AS) :
    ai prog Γ 27 [aZ t,.v (.int .i64 lf),.agg (fG t lf d ctx fresh).p.cells,.v (.int .i64 ow),ec [⟨(x : Nat),k⟩],aj ctx .any,aH fresh .any] s
      (fun r s'=>r = .dX [ec (⟨(x : Nat),k⟩ :: (cM lf d (aD lf (aU t)) (aD lf (aU t)).length).drop (1 + a)),aj (b7 d ((aD lf (aU t)).length + 1)) .any,.v (.int .i64 0)]∧s' = s):=by
  obtain ⟨h1,h2,h3,h4,-⟩:=BK L7
  rw [Int.toNat_natCast] at h4
  obtain ⟨hr,hm⟩:=ku.1 h1
  obtain ⟨cL,lj⟩ : Fit (aU t)∧t.length = 2 * aU t - 1:=by
    rcases bT (t:=t) with h | h
    · exact absurd h hr.1
    · exact h
  have oW:=cL.le
  have gE : lf < aU t:=by
    have:=hm.2.1
    omega
  have Ho:=GF cL gE lj mb
  obtain ⟨m,hxm,hmt,xf8,oZ⟩:=GC hr fresh Ho hx
  obtain rfl : x = m:=by omega
  obtain ⟨i0,fX,hie,Ey⟩:=DA hx
  have hl : (fG t lf d ctx fresh).p.steps.length = (aD lf (aU t)).length:=by simp [fG,bN]
  have pJ : a < (fG t lf d ctx fresh).p.steps.length:=by omega
  have eh : (fG t lf d ctx fresh).p.steps[a] = fY t d ctx a (lu t lf fresh a):=by simp [fG,bN]
  have tb : (fG t lf d ctx fresh).p.steps[a].di.length = (lu t lf fresh a).length:=by rw [eh]; exact tJ ..
  have Ap : ((fG t lf d ctx fresh).p.steps[a].di[i0]'(by omega)) = ss t d ctx a x:=by
    have : ((fY t d ctx a (lu t lf fresh a)).di[i0]'(by simpa [fY] using fX)) = ss t d ctx a x:=by
      simp only [fY,List.getElem_map,hie,Int.toNat_natCast]
    simpa only [eh] using this
  have JR : uR d a (x : Int) = true:=by
    have:=Dy h4 mb
    unfold stepG at this
    rw [Bool.and_eq_true,List.all_eq_true] at this
    exact this.2 _ hx
  have HI : uS (gU (gV d a x)):=by
    unfold uR at JR
    rw [Int.toNat_natCast] at JR
    exact J2.1 JR
  have PH : (lu t lf fresh a).length≤2 ^ 40:=by
    unfold lu bG
    split
    · have h1:=mw hr fresh (lv (cl (nodeAt lf (aU t) a) : Int).toNat) (cl (nodeAt lf (aU t) a) : Int).toNat
      have h2:=nG (cl (nodeAt lf (aU t) a) : Int).toNat
      have h3:=Nat.pow_le_pow_right (show 0 < 2 by decide) h2
      omega
    · exact Nat.zero_le _
  have eV:=BM (Γ:=Γ) dO gl hG t ht JY hw hr lf hm (fG t lf d ctx fresh).p hl ow BL cW ⟨(x : Nat),k⟩ ctx BF fresh hf hnf (by rw [Ft L7]) a ha pJ i0 fX hie Ey (by omega) (by omega)
    (by rw [Ap]; exact ⟨HI,IJ.1,IJ.2⟩) (by rw [Ap]; unfold ss gW; rw [nh,pE]; decide)
    (by
      intro h
      obtain ⟨u,hu,he⟩:=List.mem_map.1 h
      have he : (u : Int) = (x : Int):=he
      obtain rfl : u = x:=by omega
      exact J3 cL gE mb (by omega) oZ hu)
    (b7 d (a + 1)) (by rw [Ap]; unfold ss; simp only; rw [hk]; exact Rp ..) (by rw [Ap]; unfold ss; simp only; rw [hk]; exact Rq ..) (pE d a)
    (J1 d a _ _ fun i hi=>by
      rw [List.length_drop] at hi
      have:=sv t lf d ctx fresh (m:=(aD lf (aU t)).length) (i:=a + i) (by omega)
      unfold fG
      simp only
      rw [this]
      rfl) s
  rw [Fu d lf _ a (by omega),sw,show a + 1 + ((aD lf (aU t)).length - a) = (aD lf (aU t)).length + 1 by omega] at eV
  exact eV
end Go.Proofs.YtbiefppedlodiaaGreatDoor
namespace Go.AM
open Go Go.RowKit
variable {P : Program} {Γ : Nat→List AV}
theorem ai.settled {f : FuncId} {a b : AV} {post : List AV} {x x' : AV} {s s' : AS} {Q : AV→AS→Prop} (h : cw Γ s x s' x') (k : ai P Γ f (a :: b :: x' :: post) s' Q) : ai P Γ f (a :: b :: x :: post) s Q:=by
  intro G w vs hs hv;have hv:=hv;simp only [aq] at hv;obtain ⟨u1,us1,rfl,h1,u2,us2,rfl,h2,u,us,rfl,h3,h4⟩:=hv;obtain ⟨G',g1,g2,g3⟩:=h G w u hs h3;refine (k G' w _ g2 (by simp only [aq]; exact ⟨u1,_,rfl,au.mono g1 _ _ h1,u2,_,rfl,au.mono g1 _ _ h2,u,_,rfl,g3,aq.mono g1 _ _ h4⟩)).mono ?_;rintro e w' ⟨uB,r,v,iq,rfl,q1,q2,q3,q4⟩;exact ⟨uB,r,v,iq,rfl,g1.trans q1,q2,q3,q4⟩
end Go.AM
namespace Go.Proofs.YtbiefppedlodiaaGreatDoor
open Go Go.AM Go.Proofs Tryz
variable {Γ : Nat→List AV}
def si : List UInt8:=List.replicate 32 0
theorem Fv : cI [98] = 1143308707886319510:=by decide +kernel
theorem J4 : tG si = 1668877266923750098:=by decide +kernel
theorem J5 : lr (b7 si 1) = 954470548532752739:=by decide +kernel
theorem HV : cI (gV si 0 2) = 1379976697818645679:=by decide +kernel
theorem Nu : 3 ^ 1143308707886319510 % PP = 1403620569307361687:=(Hpke.DC 64 3 1143308707886319510 (by decide)).symm.trans (by decide +kernel)
theorem HW : 3 ^ 1668877266923750098 % PP = 1108681655847164022:=(Hpke.DC 64 3 1668877266923750098 (by decide)).symm.trans (by decide +kernel)
theorem HX : 3 ^ 954470548532752739 % PP = 316409525784712861:=(Hpke.DC 64 3 954470548532752739 (by decide)).symm.trans (by decide +kernel)
theorem Fw : 3 ^ 1379976697818645679 % PP = 2058778986153334545:=(Hpke.DC 64 3 1379976697818645679 (by decide)).symm.trans (by decide +kernel)
theorem DD : 3 ^ cI [98] % PP = 1403620569307361687:=(congrArg (fun e=>3 ^ e % PP) Fv).trans Nu
theorem HY (d : List UInt8) : ju d = 3 ^ tG d % PP:=by unfold ju; exact Eq.refl _
theorem Nv (d : List UInt8) : lq d = 3 ^ lr d % PP:=by unfold lq; exact Eq.refl _
theorem DE : ju si = 1108681655847164022:=(HY si).trans ((congrArg (fun e=>3 ^ e % PP) J4).trans HW)
theorem HZ : lq (b7 si 1) = 316409525784712861:=(Nv _).trans ((congrArg (fun e=>3 ^ e % PP) J5).trans HX)
theorem H3 : gU (gV si 0 2) = 2058778986153334545:=(J6 _).trans ((congrArg (fun e=>3 ^ e % PP) HV).trans Fw)
def tA : List al:=[⟨1,[97],9,[],[]⟩,al.iO,⟨1,[98],1403620569307361687,[],[]⟩]
theorem mB : bw tA∧cF tA 0∧cF tA 1∧aU tA = 2∧dS tA∧Nt 0 2 1 = 0∧aD 0 2 = [1]∧cl (nodeAt 0 2 0) = 2∧ly tA [] (lv 2) 2 = [2]:=by decide +kernel
theorem Fx : lu tA 0 [] 0 = [2]:=by
 unfold lu bG;rw [mB.2.2.2.1,mB.2.2.2.2.2.2.2.1,if_pos ⟨by decide,by decide,mB.1⟩];exact mB.2.2.2.2.2.2.2.2
theorem tL : (aD 0 (aU tA)).length = 1:=by rw [mB.2.2.2.1,mB.2.2.2.2.2.2.1]; rfl
theorem DG : ∀ n ∈ tA,mA n:=by unfold tA mA; decide
theorem BN : (oU tA (0 : Nat) si [] []).2 = 0:=by
 have hm : gY tA (0 : Nat) = 0:=ku.2 ⟨mB.1,mB.2.1⟩;have hG : oS tA 0 si [] 1 = true:=by
  unfold oS;rw [List.all_eq_true];intro i hi;obtain rfl : i = 0:=(by have:=List.mem_range.1 hi; omega);rw [Fx];unfold stepG;rw [show (0 : Nat) + 1 = 1 from rfl,HZ,Bool.and_eq_true,List.all_eq_true];refine ⟨by decide,fun n hn=>?_⟩;obtain rfl : n = 2:=(by simpa using hn);unfold uR;rw [show (2 : Int).toNat = 2 from rfl,H3];decide
 unfold oU;rw [if_neg (fun k=>k hm),if_neg (by decide),DE,if_neg (by decide),Int.toNat_natCast,tL,if_neg (by rw [hG]; decide)]
theorem Rr (a c : Int) (b d : Nat) : CD prog 67 .eql [.v (.int .i64 a),.v (.int .u64 b)] [.v (.int .i64 c),.v (.int .u64 d)] = some (.v (.bool (decide (a = c∧b = d)))):=by
 have h : CD prog 67 .eql [.v (.int .i64 a),.v (.int .u64 b)] [.v (.int .i64 c),.v (.int .u64 d)] = some (.v (.bool ((a == c) && (((b : Nat) : Int) == ((d : Nat) : Int) && true)))):=by
  kernel_rfl
 rw [h];refine congrArg (fun b=>some (AV.v (Value.bool b))) ?_;rw [Bool.eq_iff_iff];simp only [Bool.and_true,Bool.and_eq_true,beq_iff_eq,decide_eq_true_iff];omega
theorem y8 (dO : Γ 0 = dV Sha.H0) (gl : Γ 1 = Sha.K.map wV) (hG : Γ 3 = eS.map nH) (s : AS) : ai prog Γ 8 [] s (fun r s'=>r = .v (.bool true)∧s' = s):=by
 refine aa func8 rfl ntmps8 results8 (by simp) ?_;have c1:=fun s=>pc (Γ:=Γ) [98] (by decide) s;have c2:=fun s=>lJ (Γ:=Γ) (cI [98]) (by rw [Fv]; decide) s;have c3:=fun s=>BJ (Γ:=Γ) dO gl hG tA mB.2.2.2.2.1 (by decide) DG (0 : Nat) si [] (by decide) (by decide) [] (by decide) s;have c4:=fun s=>y7 (Γ:=Γ) dO gl hG tA mB.2.2.2.2.1 (by decide) DG 0 si [] (by decide) [] (by decide) BN 1 mB.2.2.1 (by decide) (by simp) 0 (by rw [mB.2.2.2.1]; exact mB.2.2.2.2.2.1) (by rw [tL]; decide) 2 (by rw [Fx]; simp)
  (cI [98]) (by rw [DD]; rfl) (by rw [Fv]; decide) s
 rw [BN,(BK BN).2.2.2.2] at c3;rw [DD] at c2;rw [tL] at c4;rw [Int.toNat_natCast] at c3;have hH1 : cM 0 si (aD 0 (aU tA)) 1 = [⟨(2 * 0 : Nat),tG si⟩,qN si (aD 0 (aU tA)) 0]:=(by unfold cM; simp only [List.range_succ,List.range_zero,List.nil_append,List.map_cons,List.map_nil]);obtain ⟨V,hV⟩ : ∃ V,V = fG tA 0 si [] []:=⟨_,rfl⟩;have v1 : V.p.steps = [fY tA si [] 0 [2]]:=by
  rw [hV];unfold fG bN;simp only;rw [tL];simp only [List.range_succ,List.range_zero,List.nil_append,List.map_cons,List.map_nil];rw [Fx]
 have v2 : V.t.length = 3:=by
  rw [hV];unfold fG uU iB;simp only [List.length_set];rw [kU];decide
 have v3 : V.held = [⟨(2 * 0 : Nat),tG si⟩,qN si (aD 0 (aU tA)) 0]:=by
  rw [hV];unfold fG;simp only;rw [tL,hH1]
 have v4 : V.JV = b7 si (1 + 1):=by
  rw [hV];unfold fG;simp only;rw [tL]
 rw [← hV] at c3 c4;rw [hH1] at c4;simp only [List.drop_succ_cons,List.drop_zero] at c4;have v5 : (fY tA si [] 0 [2]).di.length = 1:=tJ ..;clear hV hH1;generalize fY tA si [] 0 [2] = S at *
 generalize qN si (aD 0 (aU tA)) 0 = h1 at *
 generalize tG si = ok at *
 generalize b7 si (1 + 1) = cm at *
 generalize cI [98] = kb at *
 obtain ⟨⟨pk,pp,ps⟩,vt,vh,vc⟩:=V;obtain ⟨sk,sl⟩:=S;obtain ⟨hn,hk⟩:=h1;simp only at v1 v2 v3 v4 v5;subst v1 v3 v4;have vx : aZ tA = .sl 5 3 [.v (.int .i64 1),.sl 1 1 [.v (.int .u8 97)] .any,.v (.int .u64 9),.sl 1 0 [] .any,.sl 1 0 [] .any,.v (.int .i64 0),.sl 1 0 [] .any,.v (.int .u64 0),.sl 1 0 [] .any,.sl 1 0 [] .any,.v (.int .i64 1),.sl 1 1 [.v (.int .u8 98)] .any,.v (.int .u64 (1403620569307361687 : Nat)),.sl 1 0 [] .any,.sl 1 0 [] .any] .any:=rfl;have Zl : (AV.sl 5 3 [.v (.int .i64 1),.sl 1 1 [.v (.int .u8 97)] .new,.v (.int .u64 9),.v (.slice none 0 0),.v (.slice none 0 0),.v (.int .i64 0),.v (.slice none 0 0),.v (.int .u64 0),.v (.slice none 0 0),.v (.slice none 0 0),.v (.int .i64 1),.sl 1 1 [.v (.int .u8 98)] .new,.v (.int .u64 (1403620569307361687 : Nat)),.v (.slice none 0 0),.v (.slice none 0 0)] .new).aB (aZ tA):=by
  rw [vx];exact fun G v h=>AV.bQ G v (AV.r3 (.cons (AV.aB.refl _) (.cons AV.bQ (.cons (AV.aB.refl _) (.cons AV.aI (.cons AV.aI (.cons (AV.aB.refl _) (.cons AV.aI (.cons (AV.aB.refl _) (.cons AV.aI (.cons AV.aI (.cons (AV.aB.refl _) (.cons AV.bQ (.cons (AV.aB.refl _) (.cons AV.aI (.cons AV.aI .nil))))))))))))))) G v h)
 obtain ⟨TN,hTN⟩ : ∃ TN,TN = AV.sl 5 3 [.v (.int .i64 1),.sl 1 1 [.v (.int .u8 97)] .new,.v (.int .u64 9),.v (.slice none 0 0),.v (.slice none 0 0),.v (.int .i64 0),.v (.slice none 0 0),.v (.int .u64 0),.v (.slice none 0 0),.v (.slice none 0 0),.v (.int .i64 1),.sl 1 1 [.v (.int .u8 98)] .new,.v (.int .u64 (1403620569307361687 : Nat)),.v (.slice none 0 0),.v (.slice none 0 0)] .new:=⟨_,rfl⟩;rw [← hTN] at Zl;have PQ : ∀ (o : Nat) (s : AS),s.av o = none→ai prog Γ 10 [TN,.v (.int .i64 0),.iv o 0 1 32 32,.v (.slice none 0 0),.v (.slice none 0 0)] (s.set o (List.replicate 32 (.v (.int .u8 0)))) (fun r s'=>r = Ar ⟨⟨pk,pp,[⟨sk,sl⟩]⟩,vt,[⟨(2 * 0 : Nat),ok⟩,⟨hn,hk⟩],vc⟩ 0∧s' = s):=fun o s ho=>by
  have hz : (si.map ah) = List.replicate 32 (.v (.int .u8 0)):=(by unfold si; rw [List.map_replicate]; rfl);refine ai.settled (cw.outer (cs:=List.replicate 32 (.v (.int .u8 0))) (rest:=[]) (by rw [List.append_nil]; exact AS.ae _ _ _) (by simp)) ?_;rw [AS.drop_set ho];have:=ai.gz (.cons Zl (.cons (AV.aB.refl _) (.cons (AV.aB.refl _) (.cons AV.aI (.cons AV.aI .nil))))) (c3 s);unfold aj at this;rw [hz] at this;exact this
 have S5 : ∀ s,ai prog Γ 27 [TN,.v (.int .i64 0),.agg (dM.cells ⟨pk,pp,[⟨sk,sl⟩]⟩),.v (.int .i64 1),.sl 2 1 [.v (.int .i64 2),.v (.int .u64 kb)] .new,.v (.slice none 0 0),.v (.slice none 0 0)] s
   (fun r s'=>r = .dX [ec [⟨(2 : Nat),kb⟩,⟨hn,hk⟩],aj vc .any,.v (.int .i64 0)]∧s' = s):=fun s =>
  ai.gz (.cons Zl (.cons (AV.aB.refl _) (.cons (AV.aB.refl _) (.cons (AV.aB.refl _) (.cons AV.bQ (.cons AV.aI (.cons AV.aI .nil))))))) (c4 s)
 clear c3 c4 vx Zl;have Rs : ∀ a : AV,List.replicate 1 a = [a]:=fun _=>rfl;have WZ : ∀ a b c d e : AV,mI 15 [a,b,c,d,e] = [a,b,c,d,e,a,b,c,d,e,a,b,c,d,e]:=(fun _ _ _ _ _=>by simp [mI,List.range_succ]);have uA : ∀ a b : AV,mI 2 [a,b] = [a,b]:=fun _ _=>rfl;unfold Ar dM.cells at PQ;unfold dM.cells at S5;unfold aZ at PQ;simp only at PQ S5;rw [v2] at PQ;simp only [ec,List.length_cons,List.length_nil,Nat.zero_add,Nat.reduceAdd] at PQ S5;have hX : aQ cu.cells [⟨sk,sl⟩] = [.v (.int .u64 (sk : Nat)),.sl 2 1 (aQ eb.cells sl) .any]:=(by rw [← v5]; rfl);have hY1 : aQ bB.cells [⟨(2 * 0 : Nat),ok⟩,⟨hn,hk⟩] = [.v (.int .i64 0),.v (.int .u64 ok),.v (.int .i64 hn),.v (.int .u64 hk)]:=rfl;have Zm : aQ bB.cells [⟨(2 : Nat),kb⟩,⟨hn,hk⟩] = [.v (.int .i64 2),.v (.int .u64 kb),.v (.int .i64 hn),.v (.int .u64 hk)]:=rfl;rw [hX,hY1] at PQ;rw [hX,Zm] at S5;generalize aQ eb.cells sl = SL at *
 generalize aQ al.cells vt = X at *
 unfold aj at PQ S5;clear hX hY1 Zm v5 v2;refine jA ?_;refine jK (c1 _) ?_;rintro s1 rfl;refine jS (Ai @Rs @WZ) fun K hK=>?_;refine ad (c2 _) ?_;rintro r s2 ⟨rfl,rfl⟩;refine jV (Ai @Rs @WZ) hK ?_;clear hK K;rw [← hTN];refine aY 3 (by decide) ?_;intro K hK;refine jM ?_;refine ⟨by decide,by decide,fun o ho=>?_⟩;refine ad (PQ o _ ho) ?_;rintro r s3 ⟨rfl,rfl⟩;refine jM ?_;intro o3 q3;refine hK _ _ o3 _ rfl q3 ?_;clear hK K q3;refine jS (Ai @Rs @uA) fun K hK=>?_;refine ad (S5 _) ?_;rintro r s4 ⟨rfl,rfl⟩;refine jR hK ?_;clear hK K;have vy : (((1 : Nat) : Int) == 1) = true:=rfl;have PJ : ((0 : Int) == 0) = true:=rfl;have e33 : (((3 : Nat) : Int) == 3) = true:=rfl;have e22 : (((2 : Nat) : Int) == 2) = true:=rfl;have h01 : (0 : Int) < ((1 : Nat) : Int):=(by decide);have h02 : (1 : Int) < ((2 : Nat) : Int):=(by decide);have Zn : CD prog 67 .eql [.v (.int .i64 hn),.v (.int .u64 hk)] [.v (.int .i64 hn),.v (.int .u64 hk)] = some (.v (.bool true)):=(by rw [Rr,decide_eq_true ⟨rfl,rfl⟩]);have A5 : ((vc == vc) = true):=beq_self_eq_true vc;refine bn T.mixed [] (by kernel_rfl) ?_;intro K hK;refine jV (Ai @vy (Ai @PJ (Ai @e33 (Ai @e22 (Ai @h01 (Ai @h02 (Ai @Zn (Ai @eW (Ai @dZ @A5))))))))) hK ?_;clear hK K;exact jJ
structure nL where
 t : List al
 leaf : Int
 own : Int
 draw : List UInt8
 ctx : List UInt8
 fresh : List Int
def nL.cells (c : nL) : List AV:=[aZ c.t,.v (.int .i64 c.leaf),.v (.int .i64 c.own),aj c.draw .any,aj c.ctx .any,aH c.fresh .any]
def nL.small (c : nL) : Prop:=c.t.length≤31∧c.draw.length≤40∧c.ctx.length≤100∧c.fresh.length≤5∧∀ n ∈ c.t,tM n
theorem nL.small.wide {c : nL} (h : c.small) (hk : ∀ n ∈ c.t,n.key < 2 ^ 64) : dS c.t∧c.t.length≤2 ^ 30∧(∀ n ∈ c.t,mA n):=by
 refine ⟨⟨by have:=h.1; omega,fun n hn=>⟨by have:=(h.2.2.2.2 n hn).2.2; omega,hk n hn⟩⟩,by have:=h.1; omega,fun n hn=>?_⟩;obtain ⟨a,b,c⟩:=h.2.2.2.2 n hn;unfold mA;omega
theorem y9 (c : nL) (s : AS) : ai prog Γ 9 [.agg c.cells] s (fun r s'=>(∃ v,r = .v (.bool v)∧(v = true→c.small))∧s' = s):=by
 refine aa func9 rfl ntmps9 results9 (by simp) ?_;obtain ⟨t,leaf,own,draw,ctx,fresh⟩:=c;unfold nL.small;simp only [nL.cells];have dw:=fun (i : Nat) (hi : i < t.length)=>dm hi;unfold aZ aj aH;generalize hX : aQ al.cells t = X at *
 refine aY 1 (by decide) ?_;intro K hK;refine jM ?_;intro o ho;refine hK _ _ o _ rfl ho ?_;clear hK K ho;refine wK fun K hK=>?_;rcases tt4 (decide ((31 : Int) < (t.length : Int))) (decide ((40 : Int) < (draw.length : Int))) (decide ((100 : Int) < (ctx.length : Int))) (decide ((5 : Int) < (fresh.length : Int))) with hd | hd | hd | hd | hd;case inr.inr.inr.inr =>
  refine wS fun K hK=>?_;simp (config := { maxSteps := 1000000 }) only [↓DN,Qa,Qb,Qc,Qd,Qe,Qf,Qg,Qh,reduceCtorEq,↓reduceIte,Na,Nb,Nc,Nk,Nf,Ng,Nh,Za,Zb,Zc,TT,hd];refine hK _ _ ?_;clear hK K;refine jF ?_;refine ab ?_;refine hK _ _ ?_;clear hK K;simp only [decide_eq_false_iff_not] at hd;obtain ⟨d1,d2,d3,d4⟩:=hd;refine wK fun K hK=>?_;refine jA ?_;refine ag ?_;refine aC (fun E s2=>∃ i : Nat,i≤t.length∧(∀ b ∈ t.take i,tM b)∧E 3 = .v (.int .i64 i)∧E 1 = .dc [.sl 5 t.length X .any,.v (.int .i64 leaf),.v (.int .i64 own),.sl 1 draw.length (draw.map ah) .any,.sl 1 ctx.length (ctx.map ah) .any,.sl 1 fresh.length (fresh.map aM) .any]∧s2 = s)
   (fun E _=>match E 3 with | .v (.int _ i)=>t.length - i.toNat | _=>0) ?_ ?_
  ·exact ⟨0,Nat.zero_le _,by simp,rfl,rfl,rfl⟩
  ·rintro E1 s4 ⟨i,hi,bR,g3,g1,rfl⟩ -
   refine wK fun K2 aV=>?_;by_cases aX : i < t.length
   ·refine jB (Ai @g3 (Ai @g1 (Ai @ax (decide_eq_true aX)))) ?_;refine jE ?_;refine ab ?_;refine aV _ _ ?_;clear aV K2;refine wK fun K3 br=>?_;refine ag ?_;have cz : (0 : Int)≤(i : Int):=(by omega);have iu:=dw i aX;have dN:=List.take_succ_eq_append_getElem aX;rw [tN aX] at iu;generalize t[i] = N at *
    obtain ⟨nk,nm,ny,n8,nu⟩:=N;unfold al.cells at iu;unfold aj aH at iu;rcases tt3 (decide ((40 : Int) < (nm.length : Int))) (decide ((60 : Int) < (n8.length : Int))) (decide ((40 : Int) < (nu.length : Int))) with hb | hb | hb | hb;case inr.inr.inr =>
     refine wS fun K hK=>?_;simp (config := { maxSteps := 1000000 }) only [↓DN,Qa,Qb,Qc,Qd,Qe,Qf,Qg,Qh,reduceCtorEq,↓reduceIte,Na,Nb,Nc,Nk,Nf,Ng,Nh,Za,Zb,Zc,TT,g3,g1,cz,ax,aX,iu,hb];refine hK _ _ ?_;clear hK K;refine jF ?_;refine ab ?_;simp only [ar,az,if_true,if_false];refine br _ _ ?_;clear br K3;refine jD (Ai @g3 (bj i (by omega))) ?_;simp only [decide_eq_false_iff_not] at hb;refine ⟨⟨i + 1,by omega,?_,rfl,g1,rfl⟩,?_⟩
     ·rw [dN];intro x hx;rw [List.mem_append,List.mem_singleton] at hx;rcases hx with hx | rfl
      ·exact bR x hx
      ·exact ⟨by simp only; omega,by simp only; omega,by simp only; omega⟩
     ·simp only [g3,aF,↓reduceIte];omega
    all_goals
     refine wS fun K hK=>?_;simp (config := { maxSteps := 1000000 }) only [↓DN,Qa,Qb,Qc,Qd,Qe,Qf,Qg,Qh,reduceCtorEq,↓reduceIte,Na,Nb,Nc,Nk,Nf,Ng,Nh,Za,Zb,Zc,TT,g3,g1,cz,ax,aX,iu,hb];refine hK _ _ ?_;clear hK K;refine jE ?_;refine jA ?_;refine jI ?_;exact ⟨_,_,AV.aB.refl _,AS.le.refl _,⟨false,rfl,fun h=>by cases h⟩,rfl⟩
   ·refine jB (Ai @g3 (Ai @g1 (Ai @ax (decide_eq_false aX)))) ?_;refine jF ?_;refine aA ?_;simp only [az,ar,if_true];refine hK _ _ ?_;clear hK aV K2 K;refine jA ?_;refine jI ?_;rw [List.take_of_length_le (by omega)] at bR;exact ⟨_,_,AV.aB.refl _,AS.le.refl _,⟨true,rfl,fun _=>⟨by omega,by omega,by omega,by omega,bR⟩⟩,rfl⟩
 all_goals
  refine wS fun K hK=>?_;simp (config := { maxSteps := 1000000 }) only [↓DN,Qa,Qb,Qc,Qd,Qe,Qf,Qg,Qh,reduceCtorEq,↓reduceIte,Na,Nb,Nc,Nk,Nf,Ng,Nh,Za,Zb,Zc,TT,hd];refine hK _ _ ?_;clear hK K;refine jE ?_;refine jA ?_;refine jI ?_;exact ⟨_,_,AV.aB.refl _,AS.le.refl _,⟨false,rfl,fun h=>by cases h⟩,rfl⟩
theorem Rt (x y : bB) : CD prog 67 .neq x.cells y.cells = some (.v (.bool (decide (x≠y)))):=by
 have h : CD prog 67 .neq x.cells y.cells = some (.v (.bool (!((x.node == y.node) && (((x.key : Nat) : Int) == ((y.key : Nat) : Int) && true))))):=by
  kernel_rfl
 rw [h];refine congrArg (fun b=>some (AV.v (Value.bool b))) ?_;obtain ⟨a,b⟩:=x;obtain ⟨c,d⟩:=y;rw [Bool.eq_iff_iff];simp only [Bool.and_true,Bool.not_eq_true',Bool.and_eq_false_iff,beq_eq_false_iff_ne,ne_eq,bB.mk.injEq,decide_eq_true_iff,not_and];constructor
 ·rintro (h | h) q
  ·exact absurd q h
  ·omega
 ·intro h;by_cases q : a = c
  ·exact .inr (by have:=h q; omega)
  ·exact .inl q
theorem BO (a b : List bB) (ha : a.length≤2 ^ 60) (s : AS) : ai prog Γ 14 [ec a,ec b] s (fun r s'=>r = .v (.bool (decide (a = b)))∧s' = s):=by
 refine aa func14 rfl ntmps14 results14 (by simp) ?_;have ra:=fun i (h : i < a.length)=>ni (c:=bB.cells) (k:=2) (fun _=>rfl) h;have rb:=fun i (h : i < b.length)=>ni (c:=bB.cells) (k:=2) (fun _=>rfl) h;unfold ec;generalize aQ bB.cells a = XA at *
 generalize aQ bB.cells b = XB at *
 refine jA ?_;refine wK fun K hK=>?_;by_cases hl : a.length = b.length
 ·have e1 : ((a.length : Int) != (b.length : Int)) = false:=(by rw [hl]; simp);refine jB @e1 ?_;refine jF ?_;refine ab ?_;refine hK _ _ ?_;clear hK K;refine wK fun K hK=>?_;refine jA ?_;refine ag ?_;refine aC (fun E s2=>∃ i : Nat,i≤a.length∧a.take i = b.take i∧E 5 = .v (.int .i64 i)∧E 0 = .sl 2 a.length XA .any∧E 1 = .sl 2 b.length XB .any∧s2 = s)
   (fun E _=>match E 5 with | .v (.int _ i)=>a.length - i.toNat | _=>0) ?_ ?_
  ·exact ⟨0,Nat.zero_le _,rfl,rfl,rfl,rfl,rfl⟩
  ·rintro E1 s2 ⟨i,hi,heq,g5,g0,g1,rfl⟩ -
   refine wK fun K2 aV=>?_;by_cases aX : i < a.length
   ·have Ey : i < b.length:=(by omega);have cz : (0 : Int)≤(i : Int):=(by omega);have hta:=List.take_succ_eq_append_getElem aX;have htb:=List.take_succ_eq_append_getElem Ey;have qa:=ra i aX;have qb:=rb i Ey;have cW:=Rt (a[i]) (b[i]);have En : a[i]≠b[i]→a≠b:=fun h q=>h (by simp only [q]);refine jB (Ai @g5 (Ai @g0 (Ai @ax (decide_eq_true aX)))) ?_;refine jE ?_;refine ab ?_;refine aV _ _ ?_;clear aV K2;refine wK fun K3 br=>?_;refine ag ?_;generalize a[i] = p at *
    generalize b[i] = q at *
    have vj : p.cells.length = 2:=rfl;have hql : q.cells.length = 2:=rfl;have hpt : List.take 2 p.cells = p.cells:=rfl;have hqt : List.take 2 q.cells = q.cells:=rfl;by_cases Ru : p = q
    ·rw [decide_eq_false (fun k=>k Ru)] at cW;refine bn T.mixed [] (by kernel_rfl) ?_;intro K hK;refine jV (Ai @g5 (Ai @g0 (Ai @g1 (Ai @ax (Ai @aX (Ai @Ey (Ai @cz (Ai @qa (Ai @qb (Ai @vj (Ai @hql (Ai @hpt (Ai @hqt @cW))))))))))))) hK ?_;clear hK K;refine jF ?_;refine ab ?_;simp only [ar,az,if_true,if_false];refine br _ _ ?_;clear br K3;refine jD (Ai @g5 (bj i (by omega))) ?_;refine ⟨⟨i + 1,by omega,by rw [hta,htb,heq,Ru],rfl,g0,g1,rfl⟩,?_⟩;simp only [g5,aF,↓reduceIte];omega
    ·rw [decide_eq_true Ru] at cW;refine bn T.mixed [] (by kernel_rfl) ?_;intro K hK;refine jV (Ai @g5 (Ai @g0 (Ai @g1 (Ai @ax (Ai @aX (Ai @Ey (Ai @cz (Ai @qa (Ai @qb (Ai @vj (Ai @hql (Ai @hpt (Ai @hqt @cW))))))))))))) hK ?_;clear hK K;refine jE ?_;refine jA ?_;refine jI ?_;rw [decide_eq_false (En Ru)];exact jW ⟨rfl,rfl⟩
   ·refine jB (Ai @g5 (Ai @g0 (Ai @ax (decide_eq_false aX)))) ?_;refine jF ?_;refine aA ?_;simp only [az,ar,if_true];refine hK _ _ ?_;clear hK aV K2 K;rw [List.take_of_length_le (by omega),List.take_of_length_le (by omega)] at heq;refine jA ?_;refine jI ?_;rw [decide_eq_true heq];exact jW ⟨rfl,rfl⟩
 ·have e1 : ((a.length : Int) != (b.length : Int)) = true:=by
   rw [bne_iff_ne];omega
  refine jB @e1 ?_;refine jE ?_;refine jA ?_;refine jI ?_;rw [decide_eq_false (fun q=>hl (by rw [q]))];exact jW ⟨rfl,rfl⟩
theorem H4 {x : List UInt8} {ups : List Nat} {pub : Nat→Nat} : (dp x ups pub).1.length≤ups.length:=by
 unfold dp;split
 ·rw [fj]; exact Nat.le_refl _
 ·exact Nat.zero_le _
theorem H5 {t : List al} {leaf own : Int} {x : List UInt8} : (gq t leaf own x).1.length≤2 ^ 60:=by
 have h : ∀ l : List Nat,l.length≤6→l.length≤2 ^ 60:=(fun l h=>by omega);have hp : (sx t leaf own).length≤6:=by
  unfold sx;rw [List.length_drop];have : ∀ (k n l : Nat),(Go.AM.dk k n l).length≤k:=by
   intro k;induction k with
   | zero=>intro n l; exact Nat.zero_le _
   | succ k ih =>
    intro n l;simp only [Go.AM.dk];split
    ·exact Nat.zero_le _
    ·simp only [List.length_cons];have:=ih (p9 n) l;omega
  have:=this 6 (2 * leaf.toNat) (aU t);unfold aD;omega
 unfold gq;split
 ·exact Nat.zero_le _
 ·split
  ·exact Nat.zero_le _
  ·split
   ·have:=H4 (x:=x) (ups:=sx t leaf own) (pub:=za t (sx t leaf own));simp only;omega
   ·exact Nat.zero_le _
theorem tD (dO : Γ 0 = dV Sha.H0) (gl : Γ 1 = Sha.K.map wV) (hG : Γ 3 = eS.map nH) (c : nL) (hk : ∀ n ∈ c.t,n.key < 2 ^ 64) (x : List UInt8) (s : AS) :
  ai prog Γ 6 [.agg c.cells,aj x .any] s (fun r s'=>r = .v (.bool true)):=by
 refine aa func6 rfl ntmps6 results6 (by simp) ?_;have haw:=fun s=>y8 (Γ:=Γ) dO gl hG s;have J7:=fun s=>y9 (Γ:=Γ) c s;have PR:=fun (h : c.small)=>h.wide hk;have hen:=fun (h : dS c.t) (hx : x.length≤2 ^ 36) s=>zb (Γ:=Γ) dO gl hG c.t h c.leaf c.own x hx s;have hre:=fun (h : dS c.t) (hx : x.length≤2 ^ 36) s=>tO (Γ:=Γ) c.t h c.leaf c.own x hx s;have W0:=fun s=>BO (Γ:=Γ) (gq c.t c.leaf c.own x).1 (gq c.t c.leaf c.own x).1 H5 s;rw [decide_eq_true rfl] at W0;generalize gq c.t c.leaf c.own x = Q at *
 obtain ⟨t,leaf,own,draw,ctx,fresh⟩:=c;obtain ⟨q1,q2,q3⟩:=Q;simp only at PR hen hre W0;have H6 : (nL.mk t leaf own draw ctx fresh).cells = [aZ t,.v (.int .i64 leaf),.v (.int .i64 own),aj draw .any,aj ctx .any,aH fresh .any]:=rfl;rw [H6] at J7 ⊢;unfold aZ aH at *
 unfold aj at *
 unfold ec at *
 generalize aQ al.cells t = X at *
 generalize aQ bB.cells q1 = Y at *
 have f1 : (q3 == q3) = true:=(by simp);have f2 : (q2 == q2) = true:=(by simp);refine aY 2 (by decide) ?_;intro K hK;refine jM ?_;intro o ho;refine hK _ _ o _ rfl ho ?_;clear hK K ho;refine wK fun K hK=>?_;refine jQ fun K hK=>?_;refine ad (haw _) ?_;rintro r s1 ⟨rfl,rfl⟩;refine jM ?_;refine ad (J7 _) ?_;rintro r s2 ⟨⟨v,rfl,hv⟩,rfl⟩;cases v with
 | false =>
  refine jR hK ?_;clear hK K;refine jE ?_;refine jK (haw _) ?_;rintro s3 rfl;refine jI ?_;exact ⟨_,_,AV.aB.refl _,AS.le.refl _,rfl⟩
 | true =>
  have hw:=PR (hv rfl);by_cases h60 : x.length≤60
  ·have c1:=hen hw.1 (by omega);have c2:=hre hw.1 (by omega);refine jV (decide_eq_false (show ¬ (60 : Int) < (x.length : Int) by omega)) hK ?_;clear hK K;refine jF ?_;refine ab ?_;refine hK _ _ ?_;clear hK K;refine jK (c1 _) ?_;rintro s3 rfl;refine jS (Ai @eW @dZ) fun K hK=>?_;refine ad (c2 _) ?_;rintro r s4 ⟨rfl,rfl⟩;refine jR hK ?_;clear hK K;refine jS @f1 fun K hK=>?_;refine ad (W0 _) ?_;rintro r s5 ⟨rfl,rfl⟩;refine jV (Ai @eW (Ai @dZ @f2)) hK ?_;clear hK K;refine jI ?_;exact ⟨_,_,AV.aB.refl _,AS.le.refl _,rfl⟩
  ·refine jV (decide_eq_true (show (60 : Int) < (x.length : Int) by omega)) hK ?_;clear hK K;refine jE ?_;refine jK (haw _) ?_;rintro s3 rfl;refine jI ?_;exact ⟨_,_,AV.aB.refl _,AS.le.refl _,rfl⟩
abbrev Rv : Ty:=.slice 5 (.struct (.cons Bk (.cons Cr (.cons (.int .u64) (.cons Cr (.cons (.slice 1 Bk) .nil))))))
theorem HN {gy : List AV} (h : dU (.struct (.cons Rv (.cons Bk (.cons Bk (.cons Cr (.cons Cr (.cons (.slice 1 Bk) .nil))))))) gy) : ∃ c : nL,gy = c.cells∧∀ n ∈ c.t,n.key < 2 ^ 64:=by
  obtain ⟨x1,y1,rfl,t1,h⟩:=fg (uK h);obtain ⟨x2,y2,rfl,t2,h⟩:=fg h;obtain ⟨x3,y3,rfl,t3,h⟩:=fg h;obtain ⟨x4,y4,rfl,t4,h⟩:=fg h;obtain ⟨x5,y5,rfl,t5,h⟩:=fg h;obtain ⟨x6,y6,rfl,t6,h⟩:=fg h;obtain rfl:=Gp h;obtain ⟨t,rfl,hk⟩:=dU.tree t1;obtain ⟨n2,rfl,_⟩:=oE t2;obtain ⟨n3,rfl,_⟩:=oE t3;obtain ⟨l4,rfl,_⟩:=t4.bytes;obtain ⟨l5,rfl,_⟩:=t5.bytes;obtain ⟨l6,rfl⟩:=t6.ints;exact ⟨⟨t,n2,n3,l4,l5,l6⟩,rfl,hk⟩
def W4 : List Nat:=[0,1,28,2,29,14,24,3,30,22,20,15,25,17,4,8,31,27,13,23,21,19,16,7,26,12,18,6,11,5,10,9]
def Γd (g : Nat) : List AV:=if g = 0 then [wV Sha.H0.a,wV Sha.H0.b,wV Sha.H0.c,wV Sha.H0.d,wV Sha.H0.e,wV Sha.H0.f,wV Sha.H0.g,wV Sha.H0.h] else if g = 1 then Sha.K.map wV else if g = 2 then W4.map nH else if g = 3 then eS.map nH else []
abbrev Du : List (String × DataW Unit):=[("math/bits.deBruijn32tab", Rows.laid_math_bits_deBruijn32tab),("math/bits.deBruijn64tab", Rows.laid_math_bits_deBruijn64tab),("engrosser/sha.rounds", Rows.laid_engrosser_sha_rounds),("engrosser/sha.start", Rows.laid_engrosser_sha_start)]
theorem kh {H : Type} {enc : TypeId × Value→H} {P : Program} {W : World} {base : Nat} {sp : Nat→Bool} {held : Bool} {fuel : Nat} {t e : TypeId} {n : Nat} {cs : List Value} {p : List MemPlace} {l : List Nat} {kd : IntKind}
    (hT : P.underlying t = some (.array n e)) (he : P.underlying e = some (.int kd)) (hc : P.cellsOf e = 1)
    (h : DataW.trod enc P W base sp held fuel t cs = some (.agg (l.map fun (x : Nat)=>.lit (.int kd (x : Int))),p)) : ∀ (i x : Nat),l[i]? = some x→cs[i]? = some (.int kd (x : Int)):=by
  obtain ⟨xs,m,rfl,hx,hlen,hn,yB⟩:=DataW.trod_array hT h;simp only [Prod.mk.injEq,DataW.agg.injEq] at hx;intro i x hi;have h1 : (l.map fun (x : Nat)=>DataW.lit (H:=H) (.int kd (x : Int)))[i]? = some (.lit (.int kd (x : Int))):=(by rw [List.getElem?_map,hi]; rfl);rw [hx.1,List.getElem?_map] at h1;cases hy : xs[i]? with
  | none=>rw [hy] at h1; cases h1
  | some y =>
    rw [hy] at h1;simp only [Option.map_some,Option.some.injEq] at h1;have bI:=(List.getElem?_eq_some_iff.1 hy).1;have h2:=yB i (by omega);rw [hy,hc,Nat.mul_one] at h2;obtain ⟨k,e1,e2,_⟩:=DataW.trod_int he h2;rw [e2] at h1;simp only [DataW.lit.injEq,Lit.int.injEq,true_and] at h1;have h3 : (List.take 1 (List.drop i cs))[0]? = some (.int kd k):=(by rw [e1]; rfl);rw [List.getElem?_take,if_pos (by decide),List.getElem?_drop,Nat.add_zero,h1] at h3;exact h3
theorem Nw : prog.globalNamed "engrosser/sha.rounds" = some 1:=by kernel_rfl
theorem Rw : prog.globalNamed "engrosser/sha.start" = some 0:=by kernel_rfl
theorem xaH : prog.globalNamed "math/bits.deBruijn32tab" = some 2:=by kernel_rfl
theorem xaI : prog.globalNamed "math/bits.deBruijn64tab" = some 3:=by kernel_rfl
theorem Nx : (prog.globals[1]?).map (·.type) = some 246:=by kernel_rfl
theorem Rx : (prog.globals[0]?).map (·.type) = some 215:=by kernel_rfl
theorem xaJ : (prog.globals[2]?).map (·.type) = some 251:=by kernel_rfl
theorem xaK : (prog.globals[3]?).map (·.type) = some 232:=by kernel_rfl
theorem sy {kd : IntKind} {W : World} {g : Nat} {cs : Array Value} {l : List Nat} (hc : ∀ i,W.cell? ⟨g,i,none⟩ = cs[i]?) (h : ∀ (i x : Nat),l[i]? = some x→cs.toList[i]? = some (.int kd (x : Int))) :
    ∃ vs,aq (G0 W) (l.map fun (x : Nat)=>.v (.int kd (x : Int))) vs∧fR (G0 W) g 0 vs:=by
  refine ⟨l.map fun (x : Nat)=>.int kd (x : Int),?_,?_⟩
  · have:=aq.Cy (G:=G0 W) (l.map fun (x : Nat)=>Value.int kd (x : Int));rwa [List.map_map] at this
  · intro j u hu;rw [List.getElem?_map] at hu;cases hj : l[j]? with
    | none=>rw [hj] at hu; cases hu
    | some x =>
      rw [hj] at hu;simp only [Option.map_some,Option.some.injEq] at hu;have:=h j x hj;show W.cell? ⟨g,0 + j,none⟩ = some u;rw [Nat.zero_add,hc j,← hu];simpa using this
theorem MV {W : World} (h : laidMetH prog Du W) : ∀ g,∃ vs,aq (G0 W) (Γd g) vs∧fR (G0 W) g 0 vs:=by
  rw [MakeChecks.laidMetH_plain _ _ _ (by kernel_rfl)] at h;obtain ⟨ps,⟨g0,t0,cs0,f0,p0,q0,hg0,lh,EJ,W5,⟨g1,t1,O7,f1,p1,q1,SP,Mf,Y0,QT,⟨g2,t2,Mz,f2,p2,q2,MT,Ry,hv2,MM,⟨g3,t3,cs3,f3,p3,q3,hg3,ht3,hv3,hd3,_,_⟩,_⟩,_⟩,_⟩,_,_⟩:=h;obtain rfl:=Option.some.inj (xaH.symm.trans hg0);obtain rfl:=Option.some.inj (xaI.symm.trans SP);obtain rfl:=Option.some.inj (Nw.symm.trans MT);obtain rfl:=Option.some.inj (Rw.symm.trans hg3);obtain rfl:=Option.some.inj (xaJ.symm.trans lh);obtain rfl:=Option.some.inj (xaK.symm.trans Mf);obtain rfl:=Option.some.inj (Nx.symm.trans Ry);obtain rfl:=Option.some.inj (Rx.symm.trans ht3);have h2:=sy (World.var?_cell hg0 EJ) (kh (l:=W4) underlying251 underlying5 T.c5 W5);have h3:=sy (World.var?_cell SP Y0) (kh (l:=eS) underlying232 underlying5 T.c5 QT);have h1:=sy (World.var?_cell MT hv2) (kh (l:=Sha.K) underlying246 underlying214 T.Bw MM);have h0:=sy (World.var?_cell hg3 hv3) (kh (l:=Sha.H0.list) underlying215 underlying214 T.Bw hd3);intro g;by_cases e0 : g = 0
  · subst e0; exact h0
  · by_cases e1 : g = 1
    · subst e1; exact h1
    · by_cases e2 : g = 2
      · subst e2; exact h2
      · by_cases e3 : g = 3
        · subst e3; exact h3
        · refine ⟨[],?_,fun j u h=>by simp at h⟩;simp [Γd,e0,e1,e2,e3,aq]
theorem JA (os : Os) (args : Array Value) : laidMetH prog Du ((World.doorLaid prog 400 os).forCall (fun _ _=>0) ⟨#[],args,[]⟩).memory:=by
  rw [MakeChecks.laidMetH_plain _ _ _ (by kernel_rfl)];exact laidMet_of_run' 8 (by kernel_rfl) (by kernel_rfl)
set_option maxRecDepth 100000
def W6 : List Char:=[Cnn 104,Cnn 97,Cnn 114,Cnn 110,Cnn 101,Cnn 115,Cnn 115,Cnn 32,Cnn 97,Cnn 57,Cnn 98,Cnn 52,Cnn 52,Cnn 102,Cnn 55,Cnn 102,Cnn 53,Cnn 55,Cnn 57,Cnn 98,Cnn 98,Cnn 48,Cnn 54,Cnn 101,Cnn 48,Cnn 101,Cnn 51,Cnn 51,Cnn 101,Cnn 98,Cnn 102,Cnn 102,Cnn 98,Cnn 48,Cnn 52,Cnn 54,Cnn 56,Cnn 100,Cnn 97,Cnn 54,Cnn 48,Cnn 98,Cnn 55,Cnn 57,Cnn 97,Cnn 55,Cnn 54,Cnn 57,Cnn 51,Cnn 100,Cnn 57,Cnn 51,Cnn 51,Cnn 50,Cnn 54,Cnn 97,Cnn 97,Cnn 97,Cnn 50,Cnn 57,Cnn 48,Cnn 97,Cnn 57,Cnn 56,Cnn 49,Cnn 51,Cnn 55,Cnn 102,Cnn 51,Cnn 49,Cnn 101,Cnn 50,Cnn 32,Cnn 99,Cnn 117,Cnn 116,Cnn 32,Cnn 97,Cnn 116,Cnn 32,Cnn 101,Cnn 110,Cnn 103,Cnn 114,Cnn 111,Cnn 115,Cnn 115,Cnn 101,Cnn 114,Cnn 47,Cnn 101,Cnn 110,Cnn 103,Cnn 114,Cnn 111,Cnn 115,Cnn 115,Cnn 101,Cnn 114,Cnn 108,Cnn 97,Cnn 119,Cnn 50,Cnn 49,Cnn 46,Cnn 80,Cnn 97,Cnn 116,Cnn 104,Cnn 77,Cnn 97,Cnn 107,Cnn 101,Cnn 115,Cnn 32,Cnn 101,Cnn 110,Cnn 103,Cnn 114,Cnn 111,Cnn 115,Cnn 115,Cnn 101,Cnn 114,Cnn 47,Cnn 101,Cnn 110,Cnn 103,Cnn 114,Cnn 111,Cnn 115,Cnn 115,Cnn 101,Cnn 114,Cnn 108,Cnn 97,Cnn 119,Cnn 50,Cnn 49,Cnn 46,Cnn 80,Cnn 97,Cnn 116,Cnn 104,Cnn 65,Cnn 112,Cnn 112,Cnn 108,Cnn 105,Cnn 101,Cnn 115,Cnn 32,Cnn 101,Cnn 110,Cnn 103,Cnn 114,Cnn 111,Cnn 115,Cnn 115,Cnn 101,Cnn 114,Cnn 47,Cnn 101,Cnn 110,Cnn 103,Cnn 114,Cnn 111,Cnn 115,Cnn 115,Cnn 101,Cnn 114,Cnn 108,Cnn 97,Cnn 119,Cnn 50,Cnn 49,Cnn 46,Cnn 80,Cnn 97,Cnn 116,Cnn 104,Cnn 76,Cnn 101,Cnn 97,Cnn 114,Cnn 110,Cnn 115,Cnn 32,Cnn 101,Cnn 110,Cnn 103,Cnn 114,Cnn 111,Cnn 115,Cnn 115,Cnn 101,Cnn 114,Cnn 47,Cnn 101,Cnn 110,Cnn 103,Cnn 114,Cnn 111,Cnn 115,Cnn 115,Cnn 101,Cnn 114,Cnn 108,Cnn 97,Cnn 119,Cnn 50,Cnn 49,Cnn 46,Cnn 80,Cnn 97,Cnn 116,Cnn 104,Cnn 69,Cnn 110,Cnn 116,Cnn 101,Cnn 114,Cnn 115,Cnn 32,Cnn 101,Cnn 110,Cnn 103,Cnn 114,Cnn 111,Cnn 115,Cnn 115,Cnn 101,Cnn 114,Cnn 47,Cnn 101,Cnn 110,Cnn 103,Cnn 114,Cnn 111,Cnn 115,Cnn 115,Cnn 101,Cnn 114,Cnn 108,Cnn 97,Cnn 119,Cnn 50,Cnn 49,Cnn 46,Cnn 80,Cnn 97,Cnn 116,Cnn 104,Cnn 82,Cnn 101,Cnn 97,Cnn 100,Cnn 115]
def tP : List (List Char):=[[Cnn 104,Cnn 97,Cnn 114,Cnn 110,Cnn 101,Cnn 115,Cnn 115],
  [Cnn 97,Cnn 57,Cnn 98,Cnn 52,Cnn 52,Cnn 102,Cnn 55,Cnn 102,Cnn 53,Cnn 55,Cnn 57,Cnn 98,Cnn 98,Cnn 48,Cnn 54,Cnn 101,Cnn 48,Cnn 101,Cnn 51,Cnn 51,Cnn 101,Cnn 98,Cnn 102,Cnn 102,Cnn 98,Cnn 48,Cnn 52,Cnn 54,Cnn 56,Cnn 100,Cnn 97,Cnn 54,Cnn 48,Cnn 98,Cnn 55,Cnn 57,Cnn 97,Cnn 55,Cnn 54,Cnn 57,Cnn 51,Cnn 100,Cnn 57,Cnn 51,Cnn 51,Cnn 50,Cnn 54,Cnn 97,Cnn 97,Cnn 97,Cnn 50,Cnn 57,Cnn 48,Cnn 97,Cnn 57,Cnn 56,Cnn 49,Cnn 51,Cnn 55,Cnn 102,Cnn 51,Cnn 49,Cnn 101,Cnn 50],
  [Cnn 99,Cnn 117,Cnn 116],
  [Cnn 97,Cnn 116],
  [Cnn 101,Cnn 110,Cnn 103,Cnn 114,Cnn 111,Cnn 115,Cnn 115,Cnn 101,Cnn 114,Cnn 47,Cnn 101,Cnn 110,Cnn 103,Cnn 114,Cnn 111,Cnn 115,Cnn 115,Cnn 101,Cnn 114,Cnn 108,Cnn 97,Cnn 119,Cnn 50,Cnn 49,Cnn 46,Cnn 80,Cnn 97,Cnn 116,Cnn 104,Cnn 77,Cnn 97,Cnn 107,Cnn 101,Cnn 115],
  [Cnn 101,Cnn 110,Cnn 103,Cnn 114,Cnn 111,Cnn 115,Cnn 115,Cnn 101,Cnn 114,Cnn 47,Cnn 101,Cnn 110,Cnn 103,Cnn 114,Cnn 111,Cnn 115,Cnn 115,Cnn 101,Cnn 114,Cnn 108,Cnn 97,Cnn 119,Cnn 50,Cnn 49,Cnn 46,Cnn 80,Cnn 97,Cnn 116,Cnn 104,Cnn 65,Cnn 112,Cnn 112,Cnn 108,Cnn 105,Cnn 101,Cnn 115],
  [Cnn 101,Cnn 110,Cnn 103,Cnn 114,Cnn 111,Cnn 115,Cnn 115,Cnn 101,Cnn 114,Cnn 47,Cnn 101,Cnn 110,Cnn 103,Cnn 114,Cnn 111,Cnn 115,Cnn 115,Cnn 101,Cnn 114,Cnn 108,Cnn 97,Cnn 119,Cnn 50,Cnn 49,Cnn 46,Cnn 80,Cnn 97,Cnn 116,Cnn 104,Cnn 76,Cnn 101,Cnn 97,Cnn 114,Cnn 110,Cnn 115],
  [Cnn 101,Cnn 110,Cnn 103,Cnn 114,Cnn 111,Cnn 115,Cnn 115,Cnn 101,Cnn 114,Cnn 47,Cnn 101,Cnn 110,Cnn 103,Cnn 114,Cnn 111,Cnn 115,Cnn 115,Cnn 101,Cnn 114,Cnn 108,Cnn 97,Cnn 119,Cnn 50,Cnn 49,Cnn 46,Cnn 80,Cnn 97,Cnn 116,Cnn 104,Cnn 69,Cnn 110,Cnn 116,Cnn 101,Cnn 114,Cnn 115],
  [Cnn 101,Cnn 110,Cnn 103,Cnn 114,Cnn 111,Cnn 115,Cnn 115,Cnn 101,Cnn 114,Cnn 47,Cnn 101,Cnn 110,Cnn 103,Cnn 114,Cnn 111,Cnn 115,Cnn 115,Cnn 101,Cnn 114,Cnn 108,Cnn 97,Cnn 119,Cnn 50,Cnn 49,Cnn 46,Cnn 80,Cnn 97,Cnn 116,Cnn 104,Cnn 82,Cnn 101,Cnn 97,Cnn 100,Cnn 115]]
theorem W7 : prog.initOrder = String.ofList W6:=by kernel_rfl
theorem words : wordsSigns prog.initOrder.toList = tP:=by
  rw [W7,String.toList_ofList];kernel_rfl
theorem both {a b : Bool} (h : a = true) (k : b = true) : (a && b) = true:=by rw [h,k]; rfl
theorem MX {a b : Bool} (h : b = a) : (a == b) = true:=by rw [h]; cases a <;> rfl
theorem MZ {a b : Option Make} (h : a = b) : (a == b) = true:=by rw [h]; exact beq_self_eq_true _
theorem Ax (r : List (List Char)) : stripLifts liftWords ("cut".toList :: r) = ([], "cut".toList :: r):=by kernel_rfl
theorem Ay {P : Program} {r} (h : behindMainWord (wordsSigns P.initOrder.toList) = "cut".toList :: r) : P.headLifts = []:=by
  unfold Program.headLifts;rw [h,Ax];kernel_rfl
theorem J8 {P : Program} {r} (h : behindMainWord (wordsSigns P.initOrder.toList) = "cut".toList :: r) : P.make = some .cut:=by
  unfold Program.make;rw [h,Ay h];kernel_rfl
theorem H7 {P : Program} {r} (h : behindMainWord (wordsSigns P.initOrder.toList) = "cut".toList :: r) : P.liftsFinal = false:=by
  unfold Program.liftsFinal;rw [h,Ay h];kernel_rfl
theorem J9 {P : Program} {s r} (h : wordsSigns P.initOrder.toList = "harness".toList :: s :: r) (hs : isSumSigns s = true) : P.mainIs = some (true,s):=by
  unfold Program.mainIs;rw [h];dsimp only;rw [hs];kernel_rfl
theorem Ny {P : Program} {r} (h : behindMainWord (wordsSigns P.initOrder.toList) = "cut".toList :: r) (hl : P.laysLater = false) (hr : P.bearsReflect = false) (hd : P.doorFits [] = true) : P.mayEnter = true:=by
  unfold Program.mayEnter;rw [h,hl,hr];dsimp only;rw [Ax];dsimp only;rw [hd];kernel_rfl
theorem behind : behindMainWord (wordsSigns prog.initOrder.toList) = "cut".toList :: tP.drop 3:=(congrArg behindMainWord words).trans (by kernel_rfl)
theorem JB : prog.make = some .cut:=J8 behind
theorem JC : prog.mainIs = some (true, "a9b44f7f579bb06e0e33ebffb0468da60b79a7693d93326aaa290a98137f31e2".toList):=J9 (r:=tP.drop 2) (words.trans (by kernel_rfl)) (by kernel_rfl)
theorem MW : prog.mayEnter = true:=Ny behind (by kernel_rfl) (by kernel_rfl) (by kernel_rfl)
theorem MY : prog.liftsFinal = false:=H7 behind
end Go.Proofs.YtbiefppedlodiaaGreatDoor
