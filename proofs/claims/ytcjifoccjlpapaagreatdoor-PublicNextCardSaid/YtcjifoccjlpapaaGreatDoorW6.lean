/- Contracts of functions, each walked once; each theorem states its conditions. -/
import Derived.Test.YtcjifoccjlpapaaGreatDoorAMp6
import Derived.Test.YtcjifoccjlpapaaGreatDoorW1
import Derived.Test.YtcjifoccjlpapaaGreatDoorW5
import Derived.Test.YtcjifoccjlpapaaGreatDoorW3
import Derived.Test.YtcjifoccjlpapaaGreatDoorW4
set_option linter.unusedSimpArgs false
set_option linter.unusedVariables false
open Nat renaming reduceLT → Na, reduceLeDiff → Nb, reduceEqDiff → Nc, reduceAdd → Nk, reduceMul → Nf, reducePow → Ng, reduceSub → Nh, reduceBEq → Nz
open Int renaming reduceLT → Za, reduceLE → Zb, reduceToNat → Zc
open And renaming intro → Ai
open Go.AM renaming ashift → Qa, aconv → Qb, aindexAddr → Qc, aindex → Qd, aslice → Qe, abuiltin → Qf, awp_reg_seq → wS, awp_reg_end → wE, awp_seq_k → wK, awp_cond_k → wC
open Go.AM.AV renaming cells → Qg, one → Qh
set_option maxRecDepth 100000
set_option maxHeartbeats 8000000
namespace Go.Proofs.YtcjifoccjlpapaaGreatDoor
open Go Go.AM Go.Proofs Tryz
variable {Γ : Nat→List AV}
def PM (s0 : AS) (k : Nat) (cs : List AV) (L : List Int) (r : AV) (s' : AS) : Prop:=cU 1 s0 s' r (k + L.length) (cs ++ L.map aE)∧s0.le s'
theorem nS (hG : Γ 3 = eW.map nj) (t : List aa) (fN : aA t) (skip : List Int) (Kj : skip.length≤2 ^ 61) (n : Nat) (JM : n < 63) (hi : n < t.length) (vq : ie (n : Int) = none∨(nd t n).kind≠0)
  (s0 s : AS) (x : AV) (k : Nat) (cs : List AV) (hx : cU 1 s0 s x k cs) (hle : s0.le s) (hk : k + 33≤100000) :
  ah prog Γ 151 [ax t,.v (.int .i64 n),aC skip .any,x] s (PM s0 k cs (nO skip (nd t n) n ++ kf skip (nd t n).fF)):=by
 refine ab func151 rfl ntmps151 results151 (by simp) ?_;have lN:=fun s=>jc (Γ:=Γ) hG (n : Int) (by omega) s;have Lg:=fun v s=>mE (Γ:=Γ) skip v Kj s;have bN:=cT hi;have Zx:=rM (fN.nd n);have Ql:=rN skip (nd t n) n;have mV : nO skip (nd t n) n = if ((nd t n).kind = 1∧((n / 2 : Nat) : Int) ∉ skip)∨(nd t n).kind = 2 then [(n : Int)] else []:=rfl
 generalize nO skip (nd t n) n = SL at *
 generalize nd t n = N at *
 unfold ax;generalize au aa.cells t = X at *
 obtain ⟨nk,nm,ny,iq,nu⟩:=N;unfold aa.cells at bN;unfold aC at bN Lg ⊢;simp only at Zx mV vq;have bK : (0 : Int)≤(n : Int):=(by omega);refine jA ?_;refine az 9 (by decide) ?_;intro K hK;simp only [↓DM,cw,DX,Nz,↓DN,Qa,Qb,Qc,Qd,Qe,Qf,Qg,Qh,reduceCtorEq,↓reduceIte,Na,Nb,Nc,Nk,Nf,Ng,Nh,Za,Zb,Zc,TT,af,hi,bK,bN];intro o1 h1;refine hK _ _ o1 _ rfl h1 ?_;clear hK K h1;refine wK fun K0 Jd=>?_;have h0 : ∀ (E : Env) (lf : Int) (ok : Bool),(ok = true→nk≠0)→E 0 = .sl 5 t.length X .any→E 1 = .v (.int .i64 n)→E 2 = .sl 1 skip.length (skip.map aE) .any→E 3 = x→E 9 = .cX [.v (.int .i64 nk),.sl 1 nm.length (nm.map aw) .any,.v (.int .u64 ny),.sl 1 iq.length (iq.map aw) .any,.sl 1 nu.length (nu.map aE) .any]→E 10 = .v (.int .i64 lf)→E 11 = .v (.bool ok)→K0 E s:=by
  intro E lf ok kS g0 g1 g2 g3 g9 g10 g11;refine Jd _ _ ?_;clear Jd K0;refine wK fun K1 tQ=>?_;have h1 : ∀ (E : Env) (s1 : AS) (x1 : AV),E 1 = .v (.int .i64 n)→E 2 = .sl 1 skip.length (skip.map aE) .any→E 9 = .cX [.v (.int .i64 nk),.sl 1 nm.length (nm.map aw) .any,.v (.int .u64 ny),.sl 1 iq.length (iq.map aw) .any,.sl 1 nu.length (nu.map aE) .any]→E 3 = x1→cU 1 s0 s1 x1 (k + SL.length) (cs ++ SL.map aE)→s0.le s1→K1 E s1:=by
   clear g0 g1 g2 g3 g9 g10 g11 hx hle;intro E s1 x1 g1 g2 g9 g3 hx hle;refine tQ _ _ ?_;clear tQ K1;refine wK fun K2 aX=>?_;refine jB @g9 ?_;refine ag ?_;refine aH (fun E s2=>∃ (i : Nat) (x2 : AV),i≤nu.length∧E 67 = .v (.int .i64 i)∧E 66 = .v (.int .i64 nu.length)∧E 65 = .sl 1 nu.length (nu.map aE) .any∧E 2 = .sl 1 skip.length (skip.map aE) .any∧E 3 = x2∧cU 1 s0 s2 x2 (k + SL.length + (kf skip (nu.take i)).length) (cs ++ SL.map aE ++ (kf skip (nu.take i)).map aE)∧s0.le s2)
    (fun E _=>match E 67 with | .v (.int _ i)=>nu.length - i.toNat | _=>0) ?_ ?_
   ·refine ⟨0,x1,Nat.zero_le _,rfl,rfl,rfl,g2,g3,?_,hle⟩;have : kf skip (nu.take 0) = []:=(by simp [kf]);rw [this];simpa using hx
   ·clear g1 g2 g9 g3 hx hle;rintro E2 s2 ⟨i,x2,aO,Ob,Q4,g65,g2,g3,hx,hle⟩ -
    by_cases Er : i < nu.length
    ·refine jB (Ai @Ob (Ai @Q4 (Ai @af (decide_eq_true Er)))) ?_;refine wK fun K3 bB=>?_;refine jE ?_;refine ad ?_;refine bB _ _ ?_;clear bB K3;refine wK fun K4 fS=>?_;refine ag ?_;have Nw : (0 : Int)≤(i : Int):=(by omega);have Ic:=dC Er;have hub:=Zx.2 nu[i] (List.getElem_mem Er);have JL:=CF (skip:=skip) Er;have hlen:=vi skip (nu.take i);have cN : (nu.take i).length = i:=(by rw [List.length_take]; omega);generalize nu[i] = u at *
     have bO : ∀ (E : Env) (s3 : AS) (x3 : AV),E 67 = .v (.int .i64 i)→E 66 = .v (.int .i64 nu.length)→E 65 = .sl 1 nu.length (nu.map aE) .any→E 2 = .sl 1 skip.length (skip.map aE) .any→E 3 = x3→cU 1 s0 s3 x3 (k + SL.length + (kf skip (nu.take (i + 1))).length) (cs ++ SL.map aE ++ (kf skip (nu.take (i + 1))).map aE)→s0.le s3→K4 E s3:=by
      intro E s3 x3 f67 f66 f65 f2 f3 fx vY;refine fS _ _ ?_;clear fS K4;refine jD (Ai @f67 (aQ i (by omega))) ?_;refine ⟨⟨i + 1,x3,by omega,rfl,f66,f65,f2,f3,fx,vY⟩,?_⟩;simp only [Ob,aG,↓reduceIte];omega
     clear fS;rw [JL] at bO;generalize kf skip (nu.take i) = F at *
     generalize hCS : cs ++ SL.map aE = CS at *
     refine jB (Ai @g65 (Ai @Ob (Ai @af (Ai @Er (Ai @Nw (Ai @Ic @aE.eq_1)))))) ?_;refine jS @g2 fun K hK=>?_;refine ae (Lg _ _) ?_;rintro r s3 ⟨rfl,rfl⟩;by_cases hs : u ∈ skip
     ·rw [decide_eq_true hs];rw [if_neg (fun q=>q hs),List.append_nil] at bO;refine jR hK ?_;clear hK K;refine jF ?_;refine ad ?_;simp only [aq,av,if_true,if_false];exact bO _ _ _ Ob Q4 g65 g2 g3 hx hle
     ·rw [decide_eq_false hs];rw [if_pos hs] at bO;have e2 : kO .i64 2 u = 2 * u:=fh (by omega);rw [List.length_append,List.length_singleton,List.map_append,List.map_cons,List.map_nil,← Nat.add_assoc,← List.append_assoc] at bO;refine jR hK ?_;clear hK K;refine jE ?_;rcases hx with ⟨rfl,lI,rV⟩ | ⟨t',e,rfl,lq,iO⟩
      ·refine wE fun K hK=>?_;simp only [↓DN,Qa,Qb,Qc,Qd,Qe,Qf,Qg,Qh,reduceCtorEq,↓reduceIte,Na,Nb,Nc,Nk,Nf,Ng,Nh,Za,Zb,Zc,TT,g3,e2,bL,List.replicate_succ];intro t' lq;refine hK _ _ ?_;simp only [aq,av,if_true,if_false];rw [lI,rV] at bO;exact bO _ _ (.sl 1 1 [.v (.int .i64 (2 * u))] (.own t' 0)) Ob Q4 g65 g2 rfl (.inr ⟨t',0,rfl,by simp [AS.cd],bd hle lq⟩) (AS.bC hle (bd hle lq) 0)
      ·refine wE fun K hK=>?_;simp only [↓DN,Qa,Qb,Qc,Qd,Qe,Qf,Qg,Qh,reduceCtorEq,↓reduceIte,Na,Nb,Nc,Nk,Nf,Ng,Nh,Za,Zb,Zc,TT,g3,e2,lq,List.replicate_succ];refine ⟨by omega,by omega,hK _ _ ?_⟩;simp only [aq,av,if_true,if_false];exact bO _ _ (.sl 1 (k + SL.length + F.length + 1) (CS ++ (F.map aE ++ [.v (.int .i64 (2 * u))])) (.own t' (e + 1))) Ob Q4 g65 g2 rfl (.inr ⟨t',e + 1,by rw [List.append_assoc]; rfl,by simp [AS.cd],iO⟩) (AS.bC hle iO (e + 1))
    ·refine jB (Ai @Ob (Ai @Q4 (Ai @af (decide_eq_false Er)))) ?_;refine wK fun K3 bB=>?_;refine jF ?_;refine aB ?_;simp only [av,aq,if_true];refine aX _ _ ?_;clear aX K2 bB K3;rw [List.take_of_length_le (by omega)] at hx;refine jB @g3 ?_;refine jI ?_;refine ⟨_,_,AV.aL.refl _,AS.le.refl _,?_,hle⟩;rw [List.length_append,List.map_append,← Nat.add_assoc,← List.append_assoc];exact hx
  clear tQ;refine ag ?_;refine wK fun K3 bB=>?_;have h3 : ∀ (E : Env),E 1 = .v (.int .i64 n)→E 2 = .sl 1 skip.length (skip.map aE) .any→E 9 = .cX [.v (.int .i64 nk),.sl 1 nm.length (nm.map aw) .any,.v (.int .u64 ny),.sl 1 iq.length (iq.map aw) .any,.sl 1 nu.length (nu.map aE) .any]→E 3 = x→E 25 = .v (.bool false)→K3 E s:=by
   clear g0 g1 g2 g3 g9 g10 g11;intro E g1 g2 g9 g3 OY;refine bB _ _ ?_;clear bB K3;refine wC fun X Y hX hY=>?_;refine jP (Ai @DB @OY) ?_;refine hY ?_;clear hX hY X Y;refine wK fun K2 aX=>?_;have h2 : ∀ (E : Env) (b : Bool),(b = true↔(nk = 1∧((n / 2 : Nat) : Int) ∉ skip)∨nk = 2)→E 1 = .v (.int .i64 n)→E 2 = .sl 1 skip.length (skip.map aE) .any→E 9 = .cX [.v (.int .i64 nk),.sl 1 nm.length (nm.map aw) .any,.v (.int .u64 ny),.sl 1 iq.length (iq.map aw) .any,.sl 1 nu.length (nu.map aE) .any]→E 3 = x→E 46 = .v (.bool b)→K2 E s:=by
    clear g1 g2 g3 g9 OY;intro E b hb g1 g2 g9 g3 UC;refine aX _ _ ?_;clear aX K2;cases b with
    | false =>
     rw [if_neg (fun q=>by have:=hb.2 q; cases this)] at mV;subst mV;refine wC fun X Y hX hY=>?_;refine jP (Ai @DB @UC) ?_;refine hY ?_;clear hX hY X Y;refine ad ?_;simp only [aq,av,if_true,if_false];refine h1 _ _ x g1 g2 g9 g3 ?_ hle;simpa using hx
    | true =>
     rw [if_pos (hb.1 rfl)] at mV;subst mV;refine wC fun X Y hX hY=>?_;refine jP (Ai @DB @UC) ?_;refine hX ?_;clear hX hY X Y;rcases hx with ⟨rfl,lI,rV⟩ | ⟨t',e,rfl,lq,iO⟩
     ·refine wE fun K hK=>?_;simp only [↓DN,Qa,Qb,Qc,Qd,Qe,Qf,Qg,Qh,reduceCtorEq,↓reduceIte,Na,Nb,Nc,Nk,Nf,Ng,Nh,Za,Zb,Zc,TT,g3,g1,bL,List.replicate_succ];intro t' lq;refine hK _ _ ?_;simp only [aq,av,if_true,if_false];rw [lI,rV] at h1;exact h1 _ _ (.sl 1 1 [.v (.int .i64 (n : Int))] (.own t' 0)) g1 g2 g9 rfl (.inr ⟨t',0,rfl,by simp [AS.cd],bd hle lq⟩) (AS.bC hle (bd hle lq) 0)
     ·refine wE fun K hK=>?_;simp only [↓DN,Qa,Qb,Qc,Qd,Qe,Qf,Qg,Qh,reduceCtorEq,↓reduceIte,Na,Nb,Nc,Nk,Nf,Ng,Nh,Za,Zb,Zc,TT,g3,g1,lq,List.replicate_succ];refine ⟨by omega,by omega,hK _ _ ?_⟩;simp only [aq,av,if_true,if_false];exact h1 _ _ (.sl 1 (k + 1) (cs ++ [.v (.int .i64 (n : Int))]) (.own t' (e + 1))) g1 g2 g9 rfl (.inr ⟨t',e + 1,rfl,by simp [AS.cd],iO⟩) (AS.bC hle iO (e + 1))
   clear aX;refine wK fun K4 fS=>?_;have h4 : ∀ (E : Env) (b : Bool),(b = true↔nk = 1∧((n / 2 : Nat) : Int) ∉ skip)→E 1 = .v (.int .i64 n)→E 2 = .sl 1 skip.length (skip.map aE) .any→E 9 = .cX [.v (.int .i64 nk),.sl 1 nm.length (nm.map aw) .any,.v (.int .u64 ny),.sl 1 iq.length (iq.map aw) .any,.sl 1 nu.length (nu.map aE) .any]→E 3 = x→E 46 = .v (.bool b)→K4 E s:=by
    clear g1 g2 g9 g3 OY;intro E b hb g1 g2 g9 g3 UC;refine fS _ _ ?_;clear fS K4;cases b with
    | true =>
     refine wC fun X Y hX hY=>?_;refine jP (Ai @DB @UC) ?_;refine hX ?_;clear hX hY X Y;refine ad ?_;exact h2 _ true ⟨fun _=>.inl (hb.1 rfl),fun _=>rfl⟩ g1 g2 g9 g3 UC
    | false =>
     refine wC fun X Y hX hY=>?_;refine jP (Ai @DB @UC) ?_;refine hY ?_;clear hX hY X Y;have Hr : ¬ (nk = 1∧((n / 2 : Nat) : Int) ∉ skip):=(fun q=>by have:=hb.2 q; cases this);by_cases k2 : nk = 2
     ·refine jU (Ai @g9 (gB k2)) fun K hK=>?_;exact hK _ _ (h2 _ true ⟨fun _=>.inr k2,fun _=>rfl⟩ g1 g2 g9 g3 rfl)
     ·refine jU (Ai @g9 (e8 k2)) fun K hK=>?_;exact hK _ _ (h2 _ false ⟨(by intro h; cases h),fun q=>by rcases q with q | q; exact absurd q Hr; exact absurd q k2⟩ g1 g2 g9 g3 rfl)
   clear fS;by_cases k1 : nk = 1
   ·refine jU (Ai @g9 (Ai (gB k1) (Ai @g2 (Ai @g1 (Ai @lG (dR n (by omega))))))) fun K hK=>?_;refine ae (Lg _ _) ?_;rintro r s1 ⟨rfl,rfl⟩;by_cases hs : ((n / 2 : Nat) : Int) ∈ skip
    ·rw [decide_eq_true hs];refine jM ?_;exact hK _ _ (h4 _ false ⟨(by intro h; cases h),fun q=>absurd hs q.2⟩ g1 g2 g9 g3 rfl)
    ·rw [decide_eq_false hs];refine jM ?_;exact hK _ _ (h4 _ true ⟨fun _=>⟨k1,hs⟩,fun _=>rfl⟩ g1 g2 g9 g3 rfl)
   ·refine jU (Ai @g9 (e8 k1)) fun K hK=>?_;exact hK _ _ (h4 _ false ⟨(by intro h; cases h),fun q=>absurd q.1 k1⟩ g1 g2 g9 g3 rfl)
  clear bB;by_cases k0 : nk = 0
  ·obtain rfl : ok = false:=by
    cases ok with
    | false=>rfl
    | true=>exact absurd k0 (kS rfl)
   refine jU (Ai @g9 (Ai @g11 (gB k0))) fun K hK=>?_;exact hK _ _ (h3 _ g1 g2 g9 g3 rfl)
  ·refine jU (Ai @g9 (e8 k0)) fun K hK=>?_;exact hK _ _ (h3 _ g1 g2 g9 g3 rfl)
 clear Jd;rcases vq with vq | vq
 ·rw [vq] at lN;refine jT fun K hK=>?_;refine ae (lN _) ?_;rintro r s1 ⟨rfl,rfl⟩;refine jM ?_;exact hK _ _ (h0 _ 0 false (by intro h; cases h) rfl rfl rfl rfl rfl rfl rfl)
 ·cases Jp : ie (n : Int) with
  | none =>
   rw [Jp] at lN;refine jT fun K hK=>?_;refine ae (lN _) ?_;rintro r s1 ⟨rfl,rfl⟩;refine jM ?_;exact hK _ _ (h0 _ 0 false (by intro h; cases h) rfl rfl rfl rfl rfl rfl rfl)
  | some p =>
   rw [Jp] at lN;refine jT fun K hK=>?_;refine ae (lN _) ?_;rintro r s1 ⟨rfl,rfl⟩;refine jM ?_;exact hK _ _ (h0 _ p.1 true (fun _=>vq) rfl rfl rfl rfl rfl rfl rfl)
theorem ym (hG : Γ 3 = eW.map nj) (t : List aa) (fN : aA t) (skip : List Int) (Kj : skip.length≤2 ^ 61) : ∀ (l n : Nat),lv n = l→n < 63→n + 2 ^ l≤t.length →
  ∀ (s0 s : AS) (x : AV) (k : Nat) (cs : List AV),cU 1 s0 s x k cs→s0.le s→k + 33 * 2 ^ l≤100000 →
  ah prog Γ 151 [ax t,.v (.int .i64 n),aC skip .any,x] s (PM s0 k cs (iK t skip l n)):=by
 intro l;induction l with
 | zero =>
  intro n hl hn hs s0 s x k cs hx hle hk;exact nS hG t fN skip Kj n hn (by have : (2 : Nat) ^ 0 = 1:=rfl; omega) (.inl (rL hn hl)) s0 s x k cs hx hle (by have : (2 : Nat) ^ 0 = 1:=rfl; omega)
 | succ l ih =>
  intro n hl hn hs s0 s x k cs hx hle hk;have zi : 0 < 2 ^ l:=Nat.two_pow_pos l;have yh : 2 ^ (l + 1) = 2 ^ l + 2 ^ l:=(by rw [Nat.pow_succ]; omega);have hi : n < t.length:=(by omega);by_cases k0 : (nd t n).kind = 0
  ·have bR : iK t skip (l + 1) n = iK t skip l (n - 2 ^ l) ++ iK t skip l (n + 2 ^ l):=(by simp only [iK]; exact if_pos k0);rw [bR];refine ab func151 rfl ntmps151 results151 (by simp) ?_;obtain ⟨Jp,KO,Ba,oq,JK,N7⟩:=nN hn hl;have lN:=fun s=>jc (Γ:=Γ) hG (n : Int) (by omega) s;have Oi:=fun s=>nZ (Γ:=Γ) hG (n : Int) (by omega) s;rw [Jp] at lN Oi;have Zy:=qZ fN skip l (n - 2 ^ l);have h1:=fun s hle=>ih (n - 2 ^ l) KO (by omega) (by omega) s0 s x k cs hle;have h2:=fun s r hx=>ih (n + 2 ^ l) Ba oq (by omega) s0 s r (k + (iK t skip l (n - 2 ^ l)).length) (cs ++ (iK t skip l (n - 2 ^ l)).map aE) hx;have bN:=cT hi;clear ih bR;generalize iK t skip l (n - 2 ^ l) = L1 at *
   generalize iK t skip l (n + 2 ^ l) = L2 at *
   generalize nd t n = N at *
   unfold ax at *
   generalize au aa.cells t = X at *
   obtain ⟨nk,nm,ny,iq,nu⟩:=N;unfold aa.cells at bN;unfold aC at *
   simp only at k0;subst k0;have bK : (0 : Int)≤(n : Int):=(by omega);refine jA ?_;refine az 9 (by decide) ?_;intro K hK;simp only [↓DM,cw,DX,Nz,↓DN,Qa,Qb,Qc,Qd,Qe,Qf,Qg,Qh,reduceCtorEq,↓reduceIte,Na,Nb,Nc,Nk,Nf,Ng,Nh,Za,Zb,Zc,TT,af,hi,bK,bN];intro o1 xe;refine hK _ _ o1 _ rfl xe ?_;clear hK K xe;refine jK (lN _) ?_;rintro s1 rfl;refine wK fun K1 tQ=>?_;refine ag ?_;refine jA ?_;refine jE ?_;refine jK (Oi _) ?_;rintro s2 rfl;refine jQ fun K hK=>?_;refine ae (h1 _ hx hle (by omega)) ?_;rintro r s3 ⟨Oj,oc⟩;refine jM ?_;refine ae (h2 _ _ Oj oc (by omega)) ?_;rintro r2 s4 ⟨Nx,oP⟩;refine jR hK ?_;clear hK K;refine jI ?_;refine ⟨_,_,AV.aL.refl _,AS.le.refl _,?_,oP⟩;rw [List.length_append,List.map_append,← Nat.add_assoc,← List.append_assoc];exact Nx
  ·have bR : iK t skip (l + 1) n = nO skip (nd t n) n ++ kf skip (nd t n).fF:=(by simp only [iK]; exact if_neg k0);rw [bR];exact nS hG t fN skip Kj n hn hi (.inr k0) s0 s x k cs hx hle (by omega)
theorem wq (hG : Γ 3 = eW.map nj) (t : List aa) (ht : cV t) (x : Int) (skip : List Int) (Kj : skip.length≤2 ^ 61) (s : AS) :
  ah prog Γ 88 [ax t,.v (.int .i64 x),aC skip .any] s (fun r s'=>r = aC (gL t x skip) .any∧s' = s):=by
 refine ab func88 rfl ntmps88 results88 (by simp) ?_;have hr:=fun s=>cW (Γ:=Γ) hG t ht s;have hh:=fun (fN : aA t) n hn hs s=>ym (Γ:=Γ) hG t fN skip Kj (lv n) n rfl hn hs s s bL 0 [] (cU.nil _ _ _) (AS.le.refl _);have tT:=ht.1;have mZ : ¬ (0≤x∧x < (t.length : Int)∧aA t)→gL t x skip = []:=fun h=>if_neg h;have pF : 0≤x∧x < (t.length : Int)∧aA t→gL t x skip = iK t skip (lv x.toNat) x.toNat:=fun h=>if_pos h;unfold ax at *
 generalize au aa.cells t = X at *
 unfold bL at hh;refine jA ?_;refine wK fun K hK=>?_;by_cases h0 : x < 0
 ·refine jB (decide_eq_true h0) ?_;refine jE ?_;refine jA ?_;refine jI ?_;refine ⟨_,_,AV.aP (sz:=1),AS.le.refl _,?_,rfl⟩;rw [mZ (fun k=>by omega)];rfl
 ·by_cases h1 : (t.length : Int)≤x
  ·refine jB (Ai (decide_eq_false h0) (decide_eq_true h1)) ?_;refine jE ?_;refine jA ?_;refine jI ?_;refine ⟨_,_,AV.aP (sz:=1),AS.le.refl _,?_,rfl⟩;rw [mZ (fun k=>by omega)];rfl
  ·refine jS (Ai (decide_eq_false h0) (decide_eq_false h1)) fun K hK=>?_;refine ae (hr _) ?_;rintro r s1 ⟨rfl,rfl⟩;by_cases fN : aA t
   ·rw [decide_eq_true fN];refine jR hK ?_;clear hK K;refine jF ?_;refine ad ?_;refine hK _ _ ?_;clear hK K;obtain ⟨n,rfl⟩:=Int.eq_ofNat_of_zero_le (show 0≤x by omega);have hn : n < t.length:=(by omega);obtain ⟨vE,vC⟩:=fN.span hn;have xd:=kt (xy n);refine jQ fun K hK=>?_;refine ae (hh fN n vC vE _ (by omega)) ?_;rintro r s2 ⟨hx,hle⟩;refine jR hK ?_;clear hK K;refine jI ?_;refine ⟨_,_,hx.aL,hle,?_,rfl⟩;rw [pF ⟨by omega,by omega,fN⟩,Int.toNat_natCast];unfold aC;rw [Nat.zero_add,List.nil_append]
   ·rw [decide_eq_false fN];refine jR hK ?_;clear hK K;refine jE ?_;refine jA ?_;refine jI ?_;refine ⟨_,_,AV.aP (sz:=1),AS.le.refl _,?_,rfl⟩;rw [mZ (fun k=>fN k.2.2)];rfl
theorem rE (l : List Int) (v : Int) (hl : l.length≤2 ^ 61) (s : AS) : ah prog Γ 31 [aC l .any,.v (.int .i64 v)] s (fun r s'=>r = .v (.bool (decide (v ∈ l)))∧s' = s):=by
 refine ab func31 rfl ntmps31 results31 (by simp) ?_;unfold aC;refine jA ?_;refine wK fun K hK=>?_;refine jA ?_;refine ag ?_;refine aH (fun E s2=>∃ i : Nat,i≤l.length∧v ∉ l.take i∧E 5 = .v (.int .i64 i)∧E 0 = .sl 1 l.length (l.map aE) .any∧E 1 = .v (.int .i64 v)∧s2 = s)
  (fun E _=>match E 5 with | .v (.int _ i)=>l.length - i.toNat | _=>0) ?_ ?_
 ·exact ⟨0,Nat.zero_le _,by simp,rfl,rfl,rfl,rfl⟩
 ·rintro E1 s2 ⟨i,hi,hv,g5,g0,g1,rfl⟩ -
  refine wK fun K2 aX=>?_;by_cases aO : i < l.length
  ·refine jB (Ai @g5 (Ai @g0 (Ai @af (decide_eq_true aO)))) ?_;refine jE ?_;refine ad ?_;refine aX _ _ ?_;clear aX K2;refine wK fun K3 bB=>?_;refine ag ?_;have bN:=dC aO;have bK : (0 : Int)≤(i : Int):=(by omega);have iH : l[i] ∈ l:=List.getElem_mem aO;have gQ : l.take (i + 1) = l.take i ++ [l[i]]:=List.take_succ_eq_append_getElem aO;generalize l[i] = u at *
   by_cases hq : u = v
   ·refine jB (Ai @g0 (Ai @g1 (Ai @g5 (Ai @af (Ai @aO (Ai @bK (Ai @bN (Ai @aE.eq_1 (gB hq))))))))) ?_;refine jE ?_;refine jA ?_;refine jI ?_;rw [decide_eq_true (by rw [← hq]; exact iH)];exact jW ⟨rfl,rfl⟩
   ·refine jB (Ai @g0 (Ai @g1 (Ai @g5 (Ai @af (Ai @aO (Ai @bK (Ai @bN (Ai @aE.eq_1 (e8 hq))))))))) ?_;refine jF ?_;refine ad ?_;simp only [aq,av,if_true,if_false];refine bB _ _ ?_;clear bB K3;refine jD (Ai @g5 (aQ i (by omega))) ?_;refine ⟨⟨i + 1,by omega,?_,rfl,g0,g1,rfl⟩,?_⟩
    ·rw [gQ,List.mem_append,List.mem_singleton];rintro (h | h)
     ·exact hv h
     ·exact hq h.symm
    ·simp only [g5,aG,↓reduceIte];omega
  ·refine jB (Ai @g5 (Ai @g0 (Ai @af (decide_eq_false aO)))) ?_;refine jF ?_;refine aB ?_;simp only [av,aq,if_true];refine hK _ _ ?_;clear hK aX K2 K;rw [List.take_of_length_le (by omega)] at hv;refine jA ?_;refine jI ?_;rw [decide_eq_false hv];exact jW ⟨rfl,rfl⟩
theorem kM (t : List aa) (fN : aA t) (skip : List Int) (Kj : skip.length≤2 ^ 61) (n : Nat) (JM : n < 63) (hi : n < t.length) (vq : (nd t n).kind≠0) (s : AS) :
  ah prog Γ 103 [ax t,.v (.int .i64 n),aC skip .any] s (PM s 0 [] (nO skip (nd t n) n ++ kf skip (nd t n).fF)):=by
 refine ab func103 rfl ntmps103 results103 (by simp) ?_;have lN:=fun s=>dw (Γ:=Γ) (n : Int) (by omega) s;have Lg:=fun v s=>rE (Γ:=Γ) skip v Kj s;have bN:=cT hi;have Zx:=rM (fN.nd n);have Ql:=rN skip (nd t n) n;have xcM:=j7 (fN.nd n);have mV : nO skip (nd t n) n = if ((nd t n).kind = 1∧((n / 2 : Nat) : Int) ∉ skip)∨(nd t n).kind = 2 then [(n : Int)] else []:=rfl
 generalize nO skip (nd t n) n = SL at *
 generalize nd t n = N at *
 unfold ax;generalize au aa.cells t = X at *
 obtain ⟨nk,nm,ny,iq,nu⟩:=N;unfold aa.cells at bN;unfold aC at bN Lg ⊢;simp only at Zx mV vq xcM;have bK : (0 : Int)≤(n : Int):=(by omega);refine jA ?_;refine az 7 (by decide) ?_;intro K hK;simp only [↓DM,cw,DX,Nz,↓DN,Qa,Qb,Qc,Qd,Qe,Qf,Qg,Qh,reduceCtorEq,↓reduceIte,Na,Nb,Nc,Nk,Nf,Ng,Nh,Za,Zb,Zc,TT,af,hi,bK,bN];intro o1 h1;refine hK _ _ o1 _ rfl h1 ?_;clear hK K h1;refine wK fun K0 Jd=>?_;have h0 : ∀ (E : Env),E 1 = .v (.int .i64 n)→E 2 = .sl 1 skip.length (skip.map aE) .any→E 7 = .cX [.v (.int .i64 nk),.sl 1 nm.length (nm.map aw) .any,.v (.int .u64 ny),.sl 1 iq.length (iq.map aw) .any,.sl 1 nu.length (nu.map aE) .any]→K0 E s:=by
  intro E g1 g2 g7;refine Jd _ _ ?_;clear Jd K0;refine wK fun K1 tQ=>?_;refine jB (Ai @g7 (e8 vq)) ?_;refine jF ?_;refine ad ?_;refine tQ _ _ ?_;clear tQ K1;refine jA ?_;refine wK fun K2 aX=>?_;have h2 : ∀ (E : Env) (s1 : AS) (x1 : AV),E 2 = .sl 1 skip.length (skip.map aE) .any→E 7 = .cX [.v (.int .i64 nk),.sl 1 nm.length (nm.map aw) .any,.v (.int .u64 ny),.sl 1 iq.length (iq.map aw) .any,.sl 1 nu.length (nu.map aE) .any]→E 11 = x1→cU 1 s s1 x1 SL.length (SL.map aE)→s.le s1→K2 E s1:=by
   clear g1 g2 g7;intro E s1 x1 g2 g7 g11 hx hle;refine aX _ _ ?_;clear aX K2;refine wK fun K3 bB=>?_;refine jA ?_;refine ag ?_;refine aH (fun E s2=>∃ (i : Nat) (x2 : AV),i≤nu.length∧E 12 = .v (.int .i64 i)∧E 7 = .cX [.v (.int .i64 nk),.sl 1 nm.length (nm.map aw) .any,.v (.int .u64 ny),.sl 1 iq.length (iq.map aw) .any,.sl 1 nu.length (nu.map aE) .any]∧E 2 = .sl 1 skip.length (skip.map aE) .any∧E 11 = x2∧cU 1 s s2 x2 (SL.length + (kf skip (nu.take i)).length) (SL.map aE ++ (kf skip (nu.take i)).map aE)∧s.le s2)
    (fun E _=>match E 12 with | .v (.int _ i)=>nu.length - i.toNat | _=>0) ?_ ?_
   ·refine ⟨0,x1,Nat.zero_le _,rfl,g7,g2,g11,?_,hle⟩;have : kf skip (nu.take 0) = []:=(by simp [kf]);rw [this];simpa using hx
   ·clear g2 g7 g11 hx hle;rintro E2 s2 ⟨i,x2,aO,g12,g7,g2,g11,hx,hle⟩ -
    refine wK fun K4 fS=>?_;by_cases Er : i < nu.length
    ·refine jB (Ai @g12 (Ai @g7 (Ai @af (decide_eq_true Er)))) ?_;refine jE ?_;refine ad ?_;refine fS _ _ ?_;clear fS K4;refine wK fun K5 js=>?_;refine ag ?_;have Nw : (0 : Int)≤(i : Int):=(by omega);have Ic:=dC Er;have hub:=Zx.2 nu[i] (List.getElem_mem Er);have JL:=CF (skip:=skip) Er;have hlen:=vi skip (nu.take i);have cN : (nu.take i).length = i:=(by rw [List.length_take]; omega);generalize nu[i] = u at *
     have bO : ∀ (E : Env) (s3 : AS) (x3 : AV),E 12 = .v (.int .i64 i)→E 7 = .cX [.v (.int .i64 nk),.sl 1 nm.length (nm.map aw) .any,.v (.int .u64 ny),.sl 1 iq.length (iq.map aw) .any,.sl 1 nu.length (nu.map aE) .any]→E 2 = .sl 1 skip.length (skip.map aE) .any→E 11 = x3→cU 1 s s3 x3 (SL.length + (kf skip (nu.take (i + 1))).length) (SL.map aE ++ (kf skip (nu.take (i + 1))).map aE)→s.le s3→K5 E s3:=by
      intro E s3 x3 f12 f7 f2 f11 fx vY;refine js _ _ ?_;clear js K5;refine jD (Ai @f12 (aQ i (by omega))) ?_;refine ⟨⟨i + 1,x3,by omega,rfl,f7,f2,f11,fx,vY⟩,?_⟩;simp only [g12,aG,↓reduceIte];omega
     clear js;rw [JL] at bO;generalize kf skip (nu.take i) = F at *
     generalize hCS : SL.map aE = CS at *
     refine jS (Ai @g2 (Ai @g7 (Ai @g12 (Ai @af (Ai @Er (Ai @Nw (Ai @Ic @aE.eq_1))))))) fun K hK=>?_;refine ae (Lg _ _) ?_;rintro r s3 ⟨rfl,rfl⟩;by_cases hs : u ∈ skip
     ·rw [decide_eq_true hs];rw [if_neg (fun q=>q hs),List.append_nil] at bO;refine jR hK ?_;clear hK K;refine jF ?_;refine ad ?_;simp only [aq,av,if_true,if_false];exact bO _ _ _ g12 g7 g2 g11 hx hle
     ·rw [decide_eq_false hs];rw [if_pos hs] at bO;have e2 : kO .i64 2 u = 2 * u:=fh (by omega);rw [List.length_append,List.length_singleton,List.map_append,List.map_cons,List.map_nil,← Nat.add_assoc,← List.append_assoc] at bO;refine jR hK ?_;clear hK K;refine jE ?_;rcases hx with ⟨rfl,lI,rV⟩ | ⟨t',e,rfl,lq,iO⟩
      ·refine wE fun K hK=>?_;simp only [↓DN,Qa,Qb,Qc,Qd,Qe,Qf,Qg,Qh,reduceCtorEq,↓reduceIte,Na,Nb,Nc,Nk,Nf,Ng,Nh,Za,Zb,Zc,TT,g11,g7,g12,af,Er,Nw,Ic,aE,e2,bL,List.replicate_succ];intro t' lq;refine hK _ _ ?_;simp only [aq,av,if_true,if_false];rw [lI,rV] at bO;exact bO _ _ (.sl 1 1 [.v (.int .i64 (2 * u))] (.own t' 0)) g12 g7 g2 rfl (.inr ⟨t',0,rfl,by simp [AS.cd],bd hle lq⟩) (AS.bC hle (bd hle lq) 0)
      ·refine wE fun K hK=>?_;simp only [↓DN,Qa,Qb,Qc,Qd,Qe,Qf,Qg,Qh,reduceCtorEq,↓reduceIte,Na,Nb,Nc,Nk,Nf,Ng,Nh,Za,Zb,Zc,TT,g11,g7,g12,af,Er,Nw,Ic,aE,e2,lq,List.replicate_succ];refine ⟨by omega,by omega,hK _ _ ?_⟩;simp only [aq,av,if_true,if_false];exact bO _ _ (.sl 1 (SL.length + F.length + 1) (CS ++ (F.map aE ++ [.v (.int .i64 (2 * u))])) (.own t' (e + 1))) g12 g7 g2 rfl (.inr ⟨t',e + 1,by rw [List.append_assoc]; rfl,by simp [AS.cd],iO⟩) (AS.bC hle iO (e + 1))
    ·refine jB (Ai @g12 (Ai @g7 (Ai @af (decide_eq_false Er)))) ?_;refine jF ?_;refine aB ?_;simp only [av,aq,if_true];refine bB _ _ ?_;clear bB K3 fS K4;rw [List.take_of_length_le (by omega)] at hx;refine jB @g11 ?_;refine jI ?_;refine ⟨_,_,AV.aL.refl _,AS.le.refl _,?_,hle⟩;rw [List.length_append,List.map_append,Nat.zero_add,List.nil_append];exact hx
  clear aX;by_cases hb : (nk = 1∧((n / 2 : Nat) : Int) ∉ skip)∨nk = 2
  ·rw [if_pos hb] at mV;subst mV;have xcN : ∀ (E : Env),E 1 = .v (.int .i64 n)→E 2 = .sl 1 skip.length (skip.map aE) .any→E 7 = .cX [.v (.int .i64 nk),.sl 1 nm.length (nm.map aw) .any,.v (.int .u64 ny),.sl 1 iq.length (iq.map aw) .any,.sl 1 nu.length (nu.map aE) .any]→E 11 = .v (.slice none 0 0)→E 46 = .v (.bool true)→True:=fun _ _ _ _ _ _=>trivial;clear xcN;by_cases k2 : nk = 2
   ·refine jB (Ai @g7 (gB k2)) ?_;refine jE ?_;refine wE fun K hK=>?_;simp only [↓DN,Qa,Qb,Qc,Qd,Qe,Qf,Qg,Qh,reduceCtorEq,↓reduceIte,Na,Nb,Nc,Nk,Nf,Ng,Nh,Za,Zb,Zc,TT,g1,List.replicate_succ];intro t' lq;exact hK _ _ (h2 _ _ (.sl 1 1 [.v (.int .i64 (n : Int))] (.own t' 0)) g2 g7 rfl (.inr ⟨t',0,rfl,by simp [AS.cd],lq⟩) (AS.bC (AS.le.refl _) lq 0))
   ·have hs : ((n / 2 : Nat) : Int) ∉ skip:=(hb.resolve_right k2).2;refine jS (Ai @g7 (Ai (e8 k2) (Ai @g1 (Ai @g2 (Ai @lG (dR n (by omega))))))) fun K hK=>?_;refine ae (Lg _ _) ?_;rintro r s1 ⟨rfl,rfl⟩;rw [decide_eq_false hs];refine jR hK ?_;clear hK K;refine jE ?_;refine wE fun K hK=>?_;simp only [↓DN,Qa,Qb,Qc,Qd,Qe,Qf,Qg,Qh,reduceCtorEq,↓reduceIte,Na,Nb,Nc,Nk,Nf,Ng,Nh,Za,Zb,Zc,TT,g1,List.replicate_succ];intro t' lq;exact hK _ _ (h2 _ _ (.sl 1 1 [.v (.int .i64 (n : Int))] (.own t' 0)) g2 g7 rfl (.inr ⟨t',0,rfl,by simp [AS.cd],lq⟩) (AS.bC (AS.le.refl _) lq 0))
  ·rw [if_neg hb] at mV;subst mV;have k2 : nk≠2:=fun q=>hb (.inr q);have k1 : nk = 1:=(by omega);have hs : ((n / 2 : Nat) : Int) ∈ skip:=by
    by_cases q : ((n / 2 : Nat) : Int) ∈ skip
    ·exact q
    ·exact absurd (.inl ⟨k1,q⟩) hb
   refine jS (Ai @g7 (Ai (e8 k2) (Ai @g1 (Ai @g2 (Ai @lG (dR n (by omega))))))) fun K hK=>?_;refine ae (Lg _ _) ?_;rintro r s1 ⟨rfl,rfl⟩;rw [decide_eq_true hs];refine jR hK ?_;clear hK K;refine jF ?_;refine ad ?_;exact h2 _ _ (.v (.slice none 0 0)) g2 g7 rfl (cU.nil _ _ _) (AS.le.refl _)
 clear Jd;cases Jp : ie (n : Int) with
 | none =>
  rw [Jp] at lN;refine jT fun K hK=>?_;refine ae (lN _) ?_;rintro r s1 ⟨rfl,rfl⟩;refine jM ?_;exact hK _ _ (h0 _ rfl rfl rfl)
 | some p =>
  rw [Jp] at lN;refine jT fun K hK=>?_;refine ae (lN _) ?_;rintro r s1 ⟨rfl,rfl⟩;refine jM ?_;exact hK _ _ (h0 _ rfl rfl rfl)
theorem tu (t : List aa) (fN : aA t) (skip : List Int) (Kj : skip.length≤2 ^ 61) : ∀ (l n : Nat),lv n = l→n < 63→n + 2 ^ l≤t.length →
  ∀ (s : AS),ah prog Γ 103 [ax t,.v (.int .i64 n),aC skip .any] s (PM s 0 [] (iK t skip l n)):=by
 intro l;induction l with
 | zero =>
  intro n hl hn hs s;have hi : n < t.length:=(by have : (2 : Nat) ^ 0 = 1:=rfl; omega);by_cases k0 : (nd t n).kind = 0
  ·have hN:=(j6 k0).1 (fN.nd n);have bR : iK t skip 0 n = []:=by
    simp only [iK];rw [hN];simp [nO,kf,aa.bp]
   rw [bR];refine ab func103 rfl ntmps103 results103 (by simp) ?_;have lN:=fun s=>dw (Γ:=Γ) (n : Int) (by omega) s;rw [rL hn hl] at lN;have bN:=cT hi;rw [hN] at bN;unfold ax;generalize au aa.cells t = X at *
   unfold aa.bp aa.cells at bN;unfold aC at *
   simp only at bN;have bK : (0 : Int)≤(n : Int):=(by omega);refine jA ?_;refine az 7 (by decide) ?_;intro K hK;simp only [↓DM,cw,DX,Nz,↓DN,Qa,Qb,Qc,Qd,Qe,Qf,Qg,Qh,reduceCtorEq,↓reduceIte,Na,Nb,Nc,Nk,Nf,Ng,Nh,Za,Zb,Zc,TT,af,hi,bK,bN];intro o1 h1;refine hK _ _ o1 _ rfl h1 ?_;clear hK K h1;refine jK (lN _) ?_;rintro s1 rfl;refine wK fun K hK=>?_;refine jA ?_;refine jE ?_;refine wK fun K2 aX=>?_;refine jA ?_;refine jE ?_;refine jA ?_;refine jI ?_;exact jW ⟨cU.nil _ _ _,AS.le.refl _⟩
  ·have bR : iK t skip 0 n = nO skip (nd t n) n ++ kf skip (nd t n).fF:=rfl;rw [bR];exact kM t fN skip Kj n hn hi k0 s
 | succ l ih =>
  intro n hl hn hs s;have zi : 0 < 2 ^ l:=Nat.two_pow_pos l;have yh : 2 ^ (l + 1) = 2 ^ l + 2 ^ l:=(by rw [Nat.pow_succ]; omega);have hi : n < t.length:=(by omega);by_cases k0 : (nd t n).kind = 0
  ·have bR : iK t skip (l + 1) n = iK t skip l (n - 2 ^ l) ++ iK t skip l (n + 2 ^ l):=(by simp only [iK]; exact if_pos k0);rw [bR];refine ab func103 rfl ntmps103 results103 (by simp) ?_;obtain ⟨Jp,KO,Ba,oq,JK,N7⟩:=nN hn hl;have lN:=fun s=>dw (Γ:=Γ) (n : Int) (by omega) s;rw [Jp] at lN;have Zy:=qZ fN skip l (n - 2 ^ l);have Ny:=qZ fN skip l (n + 2 ^ l);have h1:=fun s=>ih (n - 2 ^ l) KO (by omega) (by omega) s;have h2:=fun s=>ih (n + 2 ^ l) Ba oq (by omega) s;have bN:=cT hi;clear ih bR;generalize iK t skip l (n - 2 ^ l) = L1 at *
   generalize iK t skip l (n + 2 ^ l) = L2 at *
   generalize nd t n = N at *
   unfold ax at *
   generalize au aa.cells t = X at *
   obtain ⟨nk,nm,ny,iq,nu⟩:=N;unfold aa.cells at bN;unfold aC at *
   simp only at k0;subst k0;have bK : (0 : Int)≤(n : Int):=(by omega);refine jA ?_;refine az 7 (by decide) ?_;intro K hK;simp only [↓DM,cw,DX,Nz,↓DN,Qa,Qb,Qc,Qd,Qe,Qf,Qg,Qh,reduceCtorEq,↓reduceIte,Na,Nb,Nc,Nk,Nf,Ng,Nh,Za,Zb,Zc,TT,af,hi,bK,bN];intro o1 xe;refine hK _ _ o1 _ rfl xe ?_;clear hK K xe;refine jK (lN _) ?_;rintro s1 rfl;refine wK fun K hK=>?_;refine jA ?_;refine jE ?_;refine wK fun K2 aX=>?_;refine jA ?_;refine jF ?_;refine ad ?_;refine aX _ _ ?_;clear aX K2;refine jQ fun K hK=>?_;refine ae (h1 _) ?_;rintro r s3 ⟨Oj,oc⟩;rw [Nat.zero_add,List.nil_append] at Oj;refine jM ?_;refine ae (h2 _) ?_;rintro r2 s4 ⟨Nx,oP⟩;rw [Nat.zero_add,List.nil_append] at Nx;have hle:=oc.trans oP;have hR : ∀ (r : AV) (s' : AS),cU 1 s1 s' r (L1.length + L2.length) (L1.map aE ++ L2.map aE)→s1.le s'→PM s1 0 [] (L1 ++ L2) r s':=by
    intro r s' h1 h2;unfold PM;rw [Nat.zero_add,List.nil_append,List.length_append,List.map_append];exact ⟨h1,h2⟩
   rcases Oj with ⟨rfl,lI,rV⟩ | ⟨t',e,rfl,lq,iO⟩
   ·rcases Nx with ⟨rfl,hj0,hM0⟩ | ⟨t2,e2,rfl,YP,xcQ⟩
    ·simp only [↓DM,cw,DX,Nz,↓DN,Qa,Qb,Qc,Qd,Qe,Qf,Qg,Qh,reduceCtorEq,↓reduceIte,Na,Nb,Nc,Nk,Nf,Ng,Nh,Za,Zb,Zc,TT,bL];refine hK _ _ ?_;clear hK K;refine jI ?_;refine ⟨_,_,AV.aL.refl _,AS.le.refl _,hR _ _ ?_ hle⟩;rw [lI,hj0,rV,hM0];exact cU.nil _ _ _
    ·simp only [↓DM,cw,DX,Nz,↓DN,Qa,Qb,Qc,Qd,Qe,Qf,Qg,Qh,reduceCtorEq,↓reduceIte,Na,Nb,Nc,Nk,Nf,Ng,Nh,Za,Zb,Zc,TT,bL];by_cases hz : L2.length = 0
     ·rw [if_pos hz];refine hK _ _ ?_;clear hK K;refine jI ?_;refine ⟨_,_,AV.aL.refl _,AS.le.refl _,hR _ _ ?_ hle⟩;rw [lI,hz,rV,List.eq_nil_of_length_eq_zero hz];exact cU.nil _ _ _
     ·rw [if_neg hz];refine ⟨by omega,by omega,?_⟩;intro t5 ht5;refine hK _ _ ?_;clear hK K;refine jI ?_;refine ⟨_,_,AV.aL.refl _,AS.le.refl _,hR _ _ ?_ (AS.bC hle (bd hle ht5) 0)⟩;rw [lI,rV,Nat.zero_add,List.nil_append];exact .inr ⟨t5,0,rfl,by simp [AS.cd],bd hle ht5⟩
   ·rcases Nx with ⟨rfl,hj0,hM0⟩ | ⟨t2,e2,rfl,YP,xcQ⟩
    ·simp only [↓DM,cw,DX,Nz,↓DN,Qa,Qb,Qc,Qd,Qe,Qf,Qg,Qh,reduceCtorEq,↓reduceIte,Na,Nb,Nc,Nk,Nf,Ng,Nh,Za,Zb,Zc,TT,bL,oP.own _ _ lq];refine hK _ _ ?_;clear hK K;refine jI ?_;refine ⟨_,_,AV.aL.refl _,AS.le.refl _,hR _ _ ?_ hle⟩;rw [hj0,hM0,Nat.add_zero,List.append_nil];exact .inr ⟨t',e,rfl,oP.own _ _ lq,iO⟩
    ·refine jN (oP.own _ _ lq) ?_;by_cases hz : L2.length = 0
     ·rw [if_pos hz];refine hK _ _ ?_;clear hK K;refine jI ?_;refine ⟨_,_,AV.aL.refl _,AS.le.refl _,hR _ _ ?_ hle⟩;rw [hz,List.eq_nil_of_length_eq_zero hz,List.map_nil,Nat.add_zero,List.append_nil];exact .inr ⟨t',e,rfl,oP.own _ _ lq,iO⟩
     ·rw [if_neg hz];refine ⟨by omega,by omega,by simp [List.all_eq_true,aE,AV.one],?_⟩;refine hK _ _ ?_;clear hK K;refine jI ?_;refine ⟨_,_,AV.aL.refl _,AS.le.refl _,hR _ _ ?_ (AS.bC hle iO (e + 1))⟩;exact .inr ⟨t',e + 1,rfl,by simp [AS.cd],iO⟩
  ·have bR : iK t skip (l + 1) n = nO skip (nd t n) n ++ kf skip (nd t n).fF:=(by simp only [iK]; exact if_neg k0);rw [bR];exact kM t fN skip Kj n hn hi k0 s
def Ee (s s' : AS) (r : AV) (l : List Int) : Prop:=jb 1 s' r l.length (l.map aE)∧(∀ o,rF r = some o→s.aJ o = none)∧s.le s'
theorem Ax (s : AS) : ah prog Γ 143 [bL] s (fun r s'=>Ee s s' r []):=by
 refine ab func143 rfl ntmps143 results143 (by simp) ?_;unfold bL;refine jA ?_;refine wK fun K hK=>?_;refine jA ?_;refine jE ?_;refine jA ?_;refine jI ?_;exact ⟨_,_,AV.aL.refl _,AS.le.refl _,.inl ⟨rfl,rfl,.inl rfl⟩,(fun o h=>by cases h),AS.le.refl _⟩
theorem BM (l : List Int) (s : AS) (hl : l.length≤2 ^ 42) : ah prog Γ 143 [aC l .no] s (fun r s'=>Ee s s' r l):=by
 refine ab func143 rfl ntmps143 results143 (by simp) ?_;unfold aC;refine jA ?_;refine wK fun K hK=>?_;refine jB @and_false ?_;refine jF ?_;refine ad ?_;refine hK _ _ ?_;clear hK K;by_cases h0 : l.length = 0
 ·have xc : l = []:=List.eq_nil_of_length_eq_zero h0;subst xc;refine jA ?_;refine jI ?_;exact ⟨_,s,AV.aL.refl _,AS.le.refl s,.inl ⟨rfl,rfl,.inr (.inr rfl)⟩,(fun o h=>by cases h),AS.le.refl _⟩
 ·refine nG rfl (by decide) ?_;intro ops;refine jM ?_;refine ⟨_,fun G a w hr=>dP (n:=0) (m:=l.length) (cs:=[]) (ds:=l.map aE) (e:=3) (z:=[.v (.int .i64 0)]) rfl underlying36 (by simp only [↓DN,Qa,Qb,Qc,Qd,Qe,Qf,Qg,Qh,reduceCtorEq,↓reduceIte,Na,Nb,Nc,Nk,Nf,Ng,Nh,Za,Zb,Zc,TT]; try rfl) (by simp only [↓DN,Qa,Qb,Qc,Qd,Qe,Qf,Qg,Qh,reduceCtorEq,↓reduceIte,Na,Nb,Nc,Nk,Nf,Ng,Nh,Za,Zb,Zc,TT]; try rfl) (by rw [T.c3]; decide) (by rw [T.c3]; rfl) (by simp only [↓DN,Qa,Qb,Qc,Qd,Qe,Qf,Qg,Qh,reduceCtorEq,↓reduceIte,Na,Nb,Nc,Nk,Nf,Ng,Nh,Za,Zb,Zc,TT,iE,aN,aG,Nc,↓reduceIte]) h0 (by rw [T.b3]; omega) (by omega) (by simp [List.all_eq_true,aE,AV.one]) (by rw [T.c3]; exact .inl ⟨rfl,rfl,.inr (.inr rfl)⟩) hr.eval hr.st,?_⟩;rw [T.c3];rintro r s1 ⟨ob,cap,rest,rfl,dA,jo,lE,eU,rfl⟩;refine jM ?_;refine jI ?_;have eU : s.aJ ob = none:=by
   rcases eU with h | ⟨_,h⟩
   ·exact h
   ·simp [aN,aG] at h
  rw [Nat.zero_add,Nat.mul_one] at *
  refine ⟨_,_,AV.aL.refl _,AS.le.refl _,.inr ⟨ob,cap,rest,rfl,AS.aj _ _ _,by simp,by rw [Nat.mul_one]; exact lE,dA,jo⟩,fun o h=>?_,AS.bg (AS.le.refl s) eU _⟩;cases h;exact eU
theorem wL (l : List Int) (s : AS) (hl : l.length≤2 ^ 42) : ah prog Γ 143 [aC l .any] s (fun r s'=>Ee s s' r l) :=
 ah.anyS (post:=[]) (fun e _=>by obtain rfl : l = []:=List.eq_nil_of_length_eq_zero e; exact Ax s) (BM l s hl)
theorem wM (N : aa) (hm : N.name.length≤2 ^ 45) (hp : N.parent.length≤2 ^ 45) (hu : N.fF.length≤2 ^ 42) (s : AS) : ah prog Γ 69 [.agg N.cells] s (fun r s'=>∃ x,r = .agg (aK (N,x))∧Ee s s' x N.fF):=by
 refine ab func69 rfl ntmps69 results69 (by simp) ?_;unfold aa.cells;obtain ⟨k,m,y,pa,u⟩:=N;simp only at hp hu hm;refine jS @aC.eq_1 fun K hK=>?_;intro o1 xe o2 BX;have RF : o2≠o1:=by
  rintro rfl;simp [AS.set] at BX
 have Lf:=RF.symm;have h20 : s.aJ o2 = none:=(by simpa [AS.set,aG,RF] using BX);refine hK _ _ ?_;clear hK K;refine eS T.mixed [(o1,[.v (.int .i64 k),.sl 1 m.length (m.map aw) .any,.v (.int .u64 y),.sl 1 pa.length (pa.map aw) .any,.sl 1 u.length (u.map aE) .any])] [2,5,8] [1,4,7] [10,12,14] (by kernel_rfl) (by simp only [aS,bh,and_true]; simp [AS.set,aG,Lf,RF]) ?_;intro K hK;simp only [↓bX,↓bG,eR,eP,bn,bu,aS,bh,List.any_cons,List.any_nil,List.contains_cons,List.contains_nil,Nat.reduceBEq,Bool.or_false,Bool.or_true,Bool.or_self,Bool.false_or,↓DN,Qa,Qb,Qc,Qd,Qe,Qf,Qg,Qh,reduceCtorEq,↓reduceIte,Na,Nb,Nc,Nk,Nf,Ng,Nh,Za,Zb,Zc,TT,RF,Lf];refine ae (eF m _ (by omega)) ?_;rintro r s' ⟨rfl,rfl⟩;simp only [↓cR,↓ct,cw,↓bX,↓bG,eR,eP,bn,bu,aS,bh,List.any_cons,List.any_nil,DX,Nat.reduceBEq,↓DN,Qa,Qb,Qc,Qd,Qe,Qf,Qg,Qh,reduceCtorEq,↓reduceIte,Na,Nb,Nc,Nk,Nf,Ng,Nh,Za,Zb,Zc,TT,RF,Lf];refine ae (eF pa _ hp) ?_;rintro r s' ⟨rfl,rfl⟩;simp only [↓cR,↓ct,cw,↓bX,↓bG,eR,eP,bn,bu,aS,bh,List.any_cons,List.any_nil,DX,Nat.reduceBEq,↓DN,Qa,Qb,Qc,Qd,Qe,Qf,Qg,Qh,reduceCtorEq,↓reduceIte,Na,Nb,Nc,Nk,Nf,Ng,Nh,Za,Zb,Zc,TT,RF,Lf];refine ae (wL u _ hu) ?_;rintro r s' ⟨hb,iV,hle⟩;have q1 : s'.aJ o1 = some [.v (.int .i64 k),.sl 1 m.length (m.map aw) .any,.v (.int .u64 y),.sl 1 pa.length (pa.map aw) .any,.sl 1 u.length (u.map aE) .any]:=hle.aJ _ _ (by simp [AS.set,aG,Lf]);have q2 : s'.aJ o2 = some [.v (.int .i64 0),.v (.slice none 0 0),.v (.int .u64 0),.v (.slice none 0 0),.v (.slice none 0 0)]:=hle.aJ _ _ (AS.aj _ _ _);have hs : s.le s':=(AS.bg (AS.bg (AS.le.refl s) xe _) h20 _).trans hle;have n1 : rF r≠some o1:=(fun e=>by have:=iV o1 e; simp [AS.set,aG,Lf] at this);have n2 : rF r≠some o2:=(fun e=>by have:=iV o2 e; simp [AS.set] at this);have n0 : ∀ o,rF r = some o→s.aJ o = none:=fun o e=>AS.le_none (AS.bg (AS.bg (AS.le.refl s) xe _) h20 _) (iV o e);have iW : r.one = true:=by
  rcases hb with ⟨_,_,rfl | rfl | rfl⟩ | ⟨_,_,_,rfl,_⟩ <;> rfl
 have hcell : r.cells = [r]:=by
  rcases hb with ⟨_,_,rfl | rfl | rfl⟩ | ⟨_,_,_,rfl,_⟩ <;> rfl
 unfold AV.cells at hcell;unfold AV.one at iW;simp only [↓cR,↓ct,cw,↓bX,↓bG,eR,eP,bn,bu,aS,bh,List.any_cons,List.any_nil,DX,Nat.reduceBEq,↓DN,Qa,Qb,Qc,Qd,Qe,Qf,Qg,Qh,reduceCtorEq,↓reduceIte,Na,Nb,Nc,Nk,Nf,Ng,Nh,Za,Zb,Zc,TT,q1,q2,hcell,RF,Lf,aC,iW];refine hK _ _ ?_;clear hK K;refine jB (Ai @q1 (Ai @q2 (Ai @hcell (Ai @RF (Ai @Lf (Ai @aC.eq_1 @iW)))))) ?_;refine bo ?_;refine jX (o:=o2) (off:=0) rfl (AS.aj _ _ _) (by rw [T.kX]; decide) (by simp only [↓DN,Qa,Qb,Qc,Qd,Qe,Qf,Qg,Qh,reduceCtorEq,↓reduceIte,Na,Nb,Nc,Nk,Nf,Ng,Nh,Za,Zb,Zc,TT]; rfl) ?_;refine ⟨_,_,AV.aL.refl _,AS.le.refl _,r,rfl,?_,n0,?_⟩
 ·first | exact ((((hb.mN n1).mN n1).mN n1).mN n2) | exact ((hb.mN n1).mN n2)
 ·first | exact AS.bg (AS.bg (AS.bg (AS.bg hs xe _) xe _) xe _) h20 _ | exact AS.bg (AS.bg hs xe _) h20 _
theorem CQ (a b c d e : AV) : ig 5 [a,b,c,d,e] = [a,b,c,d,e]:=rfl
theorem cz.leR {s0 s s' : AS} {X : AV} {TS : List (aa × AV)} (h : cz s0 s X TS) (k : s.le s') : cz s0 s' X TS :=
 ⟨⟨fun p hp=>(h.xs.buf p hp).le k,h.xs.new,h.xs.sep⟩,h.le.trans k,h.row.le k,h.Bs,h.DH⟩
def qP (n : aa) : Prop:=n.name.length≤2 ^ 45∧n.parent.length≤2 ^ 45∧n.fF.length≤2 ^ 42
theorem ku (t : List aa) (ht : t.length≤2 ^ 30) (hw : ∀ n ∈ t,qP n) (s : AS) : ah prog Γ 27 [ax t] s (fun r s'=>∃ TS,TS.map (·.1) = t∧cz s s' r TS):=by
 refine ab func27 rfl ntmps27 results27 (by simp) ?_
 have bN:=fun i (h : i < t.length)=>cT (t:=t) h
 have hnW : ∀ i (h : i < t.length),qP (nd t i):=fun i h=>by rw [pE h]; exact hw _ (List.getElem_mem h)
 have gQ : ∀ i (h : i < t.length),t.take (i + 1) = t.take i ++ [nd t i]:=fun i h=>by rw [List.take_succ_eq_append_getElem h,pE h]
 unfold ax at *
 generalize au aa.cells t = X at *
 refine jA ?_
 refine jA ?_
 refine wK fun K hK=>?_
 refine jA ?_
 refine ag ?_
 refine aH (fun E s2=>∃ (i : Nat) (x : AV) (TS : List (aa × AV)),i≤t.length∧E 8 = .v (.int .i64 i)∧E 7 = .v (.int .i64 t.length)∧E 6 = .sl 5 t.length X .any∧E 3 = x∧TS.map (·.1) = t.take i∧cz s s2 x TS)
  (fun E _=>match E 8 with | .v (.int _ i)=>t.length - i.toNat | _=>0) ?_ ?_
 ·exact ⟨0,_,[],Nat.zero_le _,by simp only [aG,Nc,↓reduceIte]; rfl,by simp only [aG,Nc,↓reduceIte],by simp only [aG,Nc,↓reduceIte],by simp only [aG,Nc,↓reduceIte]; rfl,rfl,cz.nil s⟩
 ·rintro E1 s2 ⟨i,x,TS,hi,g8,g7,g6,g3,hT,hx⟩ -
  by_cases aO : i < t.length
  ·refine jB (Ai @g8 (Ai @g7 (Ai @af (decide_eq_true aO)))) ?_
   refine wK fun K2 aX=>?_
   refine jE ?_
   refine ad ?_
   refine aX _ _ ?_;clear aX K2
   refine wK fun K3 bB=>?_
   refine ag ?_
   have gq:=bN i aO
   have hN:=hnW i aO
   have dc:=gQ i aO
   generalize nd t i = N at *
   have Gl : TS.length = i:=by have:=congrArg List.length hT; simp at this; omega
   have bK : (0 : Int)≤((i : Nat) : Int):=by omega
   obtain ⟨nk,nm,ny,iq,nu⟩:=N
   unfold aa.cells at gq
   simp only at gq
   refine az 5 (by decide) ?_
   intro K hK
   simp only [↓DM,cw,DX,Nz,↓DN,Qa,Qb,Qc,Qd,Qe,Qf,Qg,Qh,reduceCtorEq,↓reduceIte,Na,Nb,Nc,Nk,Nf,Ng,Nh,Za,Zb,Zc,TT,g6,g8,af,aO,bK,gq,aC]
   intro o1 h1
   refine hK _ _ o1 _ (by simp only [aG,Nc,↓reduceIte]) h1 ?_
   clear hK K h1
   refine qC rfl (by decide) ?_
   intro ops
   simp only [↓DM,cw,DX,Nz,↓DN,Qa,Qb,Qc,Qd,Qe,Qf,Qg,Qh,reduceCtorEq,↓reduceIte,Na,Nb,Nc,Nk,Nf,Ng,Nh,Za,Zb,Zc,TT,g3]
   refine ae (wM ⟨nk,nm,ny,iq,nu⟩ hN.1 hN.2.1 hN.2.2 _) ?_
   rintro r s3 ⟨xn,rfl,hb,iV,oc⟩
   unfold aK at *
   simp only [↓DM,cw,DX,Nz,↓DN,Qa,Qb,Qc,Qd,Qe,Qf,Qg,Qh,reduceCtorEq,↓reduceIte,Na,Nb,Nc,Nk,Nf,Ng,Nh,Za,Zb,Zc,TT,g3,CQ]
   have Uh : s2.le s3:=oc
   have fU : jb 5 s3 x i (au aK TS):=by
    have:=hx.row.le oc
    rwa [Gl] at this
   have iW : xn.one = true:=by
    rcases hb with ⟨_,_,rfl | rfl | rfl⟩ | ⟨_,_,_,rfl,_⟩ <;> rfl
   refine ⟨_,fun G a w hr=>dP (n:=i) (m:=1) (cs:=au aK TS) (ds:=aK (⟨nk,nm,ny,iq,nu⟩,xn)) (e:=64) rfl underlying23 (by simp only [↓DN,Qa,Qb,Qc,Qd,Qe,Qf,Qg,Qh,reduceCtorEq,↓reduceIte,Na,Nb,Nc,Nk,Nf,Ng,Nh,Za,Zb,Zc,TT]; try rfl) T.Oa (by rw [T.kX]; decide) (by rw [T.kX]; rfl) (by rw [T.kX]; simp only [↓DN,Qa,Qb,Qc,Qd,Qe,Qf,Qg,Qh,reduceCtorEq,↓reduceIte,Na,Nb,Nc,Nk,Nf,Ng,Nh,Za,Zb,Zc,TT,iE,aN,aG,Nc,↓reduceIte]; rfl) (by decide) (by rw [T.L4]; omega) (by omega) (by simp only [aK,List.all_cons,List.all_nil,iW]; rfl) (by rw [T.kX]; exact fU) hr.eval hr.st,?_⟩
   rw [T.kX]
   rintro r s4 ⟨ob,cap,rest,rfl,dA,jo,lE,eU,rfl⟩
   have Tv : s3.aJ ob = none∨∃ iI,x = .dj ob 0 5 TS.length iI:=by
    rw [Gl]; exact eU
   have RG:=(cz.leR hx oc).push (p:=(⟨nk,nm,ny,iq,nu⟩,xn)) (ob:=ob) (cap:=cap) (rest:=rest) hb
    (fun o ho=>⟨AS.le_none hx.le (iV o ho),(fun q hq e=>by obtain ⟨ds,hd⟩:=(hx.xs.buf q hq).some e; rw [iV o ho] at hd; cases hd),(fun e=>by obtain ⟨ds,hd⟩:=hx.row.some e; rw [iV o ho] at hd; cases hd)⟩)
    Tv (by rw [Gl]; exact dA) jo (by rw [Gl]; exact lE)
   rw [Gl,List.append_assoc] at RG
   refine jV @g3 bB ?_;clear bB K3
   refine jD (Ai @g8 (aQ i (by omega))) ?_
   refine ⟨⟨i + 1,.dj ob 0 5 (i + 1) cap,TS ++ [(⟨nk,nm,ny,iq,nu⟩,xn)],by omega,by simp only [aG,Nc,↓reduceIte],by simp only [aG,g7,Nc,↓reduceIte],by simp only [aG,g6,Nc,↓reduceIte],by simp only [aG,Nc,↓reduceIte],by rw [List.map_append,hT,dc]; rfl,RG⟩,?_⟩
   simp only [g8,aG,↓reduceIte]
   omega
  ·refine jB (Ai @g8 (Ai @g7 (Ai @af (decide_eq_false aO)))) ?_
   refine wK fun K2 aX=>?_
   refine jF ?_
   refine aB ?_
   simp only [av,aq,if_true]
   refine hK _ _ ?_;clear hK aX K2 K
   obtain rfl : i = t.length:=by omega
   refine jB @g3 ?_
   refine jI ?_
   exact ⟨_,_,AV.aL.refl _,AS.le.refl _,TS,by rw [hT,List.take_length],hx⟩
def xcR : Go.Shelf.Ren:=⟨fun | 21=>197 | 27=>226 | 28=>227 | 35=>238 | 39=>251 | n=>n,fun | 22=>36 | n=>n,fun n=>n⟩
theorem Zz : Lays2.n21 prog xcR where
  mixed:=by kernel_rfl
  f21:=(func197).trans (congrArg some (by kernel_rfl))
  f27:=(func226).trans (congrArg some (by kernel_rfl))
  f28:=(func227).trans (congrArg some (by kernel_rfl))
  f35:=(func238).trans (congrArg some (by kernel_rfl))
  f39:=(func251).trans (congrArg some (by kernel_rfl))
  t0:=underlying0
  a0:=isAgg0
  z0:=sizeOf0
  v0:=zeroValue0
  t3:=underlying3
  a3:=isAgg3
  z3:=sizeOf3
  v3:=zeroValue3
  t4:=underlying4
  a4:=isAgg4
  z4:=sizeOf4
  v4:=zeroValue4
  t22:=underlying36
  a22:=isAgg36
  z22:=sizeOf36
  v22:=zeroValue36
  i3:=by kernel_rfl
def xcS : Go.Shelf.Ren:=⟨fun | 25=>196 | 31=>224 | 32=>225 | 37=>237 | n=>n,fun | 22=>36 | 40=>159 | n=>n,fun n=>n⟩
theorem ZA : Lays2.n25 prog xcS where
  mixed:=by kernel_rfl
  f25:=(func196).trans (congrArg some (by kernel_rfl))
  f31:=(func224).trans (congrArg some (by kernel_rfl))
  f32:=(func225).trans (congrArg some (by kernel_rfl))
  f37:=(func237).trans (congrArg some (by kernel_rfl))
  t0:=underlying0
  a0:=isAgg0
  z0:=sizeOf0
  v0:=zeroValue0
  t3:=underlying3
  a3:=isAgg3
  z3:=sizeOf3
  v3:=zeroValue3
  t4:=underlying4
  a4:=isAgg4
  z4:=sizeOf4
  v4:=zeroValue4
  t22:=underlying36
  a22:=isAgg36
  z22:=sizeOf36
  v22:=zeroValue36
  t40:=underlying159
  a40:=isAgg159
  z40:=sizeOf159
  v40:=zeroValue159
theorem Ay {x : AV} {l : List Int} (v : Int) (hl : l.length < 2 ^ 62) (hs : l.Pairwise (·≤·)) {s : AS} (hb : jb 1 s x l.length (l.map aE)) :
    ah prog Γ 196 [x,.v (.int .i64 v)] s (fun r s'=>r = .dZ [.v (.int .i64 ((l.countP (· < v) : Nat) : Int)),.v (.bool (l.contains v))]∧s' = s) :=
  D0 ZA v hl hs hb
theorem BN {sa s : AS} {X : AV} {TS : List (aa × AV)} (h : cz sa s X TS) (ht : TS.length≤2 ^ 61) (i : Int) : ah prog Γ 115 [X,.v (.int .i64 i)] s (fun r s'=>r = .v (.bool (decide (bx (TS.map (·.1)) i)))∧s' = s) :=
  ah.view ((eu (Γ:=Γ0) (TS.map (·.1)) (by simpa using ht) i s0).mono fun r s' h=>h.1) (.cons h.view (.cons .val .nil))
theorem BO {sa s : AS} {X : AV} {TS : List (aa × AV)} (h : cz sa s X TS) (ht : TS.length≤2 ^ 61) : ah prog Γ 113 [X] s (fun r s'=>r = .v (.int .i64 (aY (TS.map (·.1))))∧s' = s) :=
  ah.view ((eY (Γ:=Γ0) (TS.map (·.1)) (by simpa using ht) s0).mono fun r s' h=>h.1) (.cons h.view .nil)
theorem Az {sa s : AS} {X : AV} {TS : List (aa × AV)} (h : cz sa s X TS) (ht : TS.length≤2 ^ 61) (a k : Nat) (hak : a + k < 2 ^ 61) : ah prog Γ 117 [X,.v (.int .i64 a),.v (.int .i64 (((a + k : Nat) : Int) - 1))] s (fun r s'=>r = .v (.int .i64 (dF (bx (TS.map (·.1))) a k))∧s' = s) :=
  ah.view ((kv (Γ:=Γ0) (TS.map (·.1)) (by simpa using ht) a k hak s0).mono fun r s' h=>h.1) (.cons h.view (.cons .val (.cons .val .nil)))
theorem mW (name : List UInt8) (key : Nat) (hn : name.length≤2 ^ 45) (s : AS) : ah prog Γ 136 [ak name .any,.v (.int .u64 key)] s (fun r s'=>r = .agg (bq name key).cells∧s' = s):=by
 refine ab func136 rfl ntmps136 results136 (by simp) ?_;have hc:=fun s=>eF (Γ:=Γ) name s hn;unfold ak at *
 refine wS fun K hK=>?_;refine jO ?_;intro o ho;refine hK _ _ ?_;clear hK K;refine wS fun K hK=>?_;refine jO ?_;refine ae (hc _) ?_;rintro r s1 ⟨rfl,rfl⟩;refine jM ?_;refine hK _ _ ?_;clear hK K;refine bo ?_;refine jX (o:=o) (off:=0) rfl (AS.aj _ _ _) (by rw [T.kX]; decide) (by simp only [↓DN,Qa,Qb,Qc,Qd,Qe,Qf,Qg,Qh,reduceCtorEq,↓reduceIte,Na,Nb,Nc,Nk,Nf,Ng,Nh,Za,Zb,Zc,TT]; rfl) ?_;exact ⟨_,s,AV.fR (.cons (AV.aL.refl _) (.cons (AV.aL.refl _) (.cons (AV.aL.refl _) (.cons AV.aP (.cons AV.aP .nil))))),AS.bg (AS.le.refl s) ho _,rfl,rfl⟩
theorem Gm (name : List UInt8) (key : Nat) (hn : name.length≤2 ^ 45) (s : AS) : ah prog Γ 62 [ak name .any,.v (.int .u64 key)] s
  (fun r s'=>r = (if (bq name key).right then .dZ [ax [bq name key],.v (.int .i64 0)] else .dZ [bL,.v (.int .i64 2)])∧s' = s):=by
 by_cases h : (bq name key).right
 ·rw [if_pos h];refine ab func62 rfl ntmps62 results62 (by simp) ?_;have hc:=fun s=>mW (Γ:=Γ) name key hn s;have hr:=fun s=>dY (Γ:=Γ) (bq name key) (by simp [bq]) s;have cZ : (bq name key).cells = [.v (.int .i64 1),ak name .any,.v (.int .u64 key),ak [] .any,aC [] .any]:=rfl;have NA : ax [bq name key] = .sl 5 1 [.v (.int .i64 1),ak name .any,.v (.int .u64 key),ak [] .any,aC [] .any] .any:=rfl;rw [NA];rw [cZ] at hc hr;generalize bq name key = N at *
  unfold ak aC at *
  refine jA ?_;refine az 6 (by decide) ?_;intro K hK;refine jM ?_;refine ae (hc _) ?_;rintro r s1 ⟨rfl,rfl⟩;refine jM ?_;intro o ho;refine hK _ _ o _ rfl ho ?_;clear hK K ho;refine wK fun K hK=>?_;refine jQ fun K hK=>?_;refine ae (hr _) ?_;rintro r s2 ⟨rfl,rfl⟩;rw [decide_eq_true h];refine jR hK ?_;clear hK K;refine jF ?_;refine ad ?_;refine hK _ _ ?_;clear hK K;refine jB @CQ ?_;refine jI ?_;exact ⟨_,_,AV.gb AV.db (AV.aL.refl _),AS.le.refl _,rfl,rfl⟩
 ·rw [if_neg h];refine ab func62 rfl ntmps62 results62 (by simp) ?_;have hc:=fun s=>mW (Γ:=Γ) name key hn s;have hr:=fun s=>dY (Γ:=Γ) (bq name key) (by simp [bq]) s;have cZ : (bq name key).cells = [.v (.int .i64 1),ak name .any,.v (.int .u64 key),ak [] .any,aC [] .any]:=rfl;have NA : ax [bq name key] = .sl 5 1 [.v (.int .i64 1),ak name .any,.v (.int .u64 key),ak [] .any,aC [] .any] .any:=rfl;clear NA;rw [cZ] at hc hr;generalize bq name key = N at *
  unfold ak aC at *
  refine jA ?_;refine az 6 (by decide) ?_;intro K hK;refine jM ?_;refine ae (hc _) ?_;rintro r s1 ⟨rfl,rfl⟩;refine jM ?_;intro o ho;refine hK _ _ o _ rfl ho ?_;clear hK K ho;refine wK fun K hK=>?_;refine jQ fun K hK=>?_;refine ae (hr _) ?_;rintro r s2 ⟨rfl,rfl⟩;rw [decide_eq_false h];refine jR hK ?_;clear hK K;refine jE ?_;refine jA ?_;exact jJ
end Go.Proofs.YtcjifoccjlpapaaGreatDoor
namespace Go.AM
open Go
def nT (L : Nat) (t : List aa) : Prop:=Fit L∧t.length = 2 * L - 1 ∧
    (∀ i,i < 2 * L - 1→(nd t i).right∧((nd t i).kind = 0∨((nd t i).kind = 1↔i % 2 = 0))∧∀ u ∈ (nd t i).fF,(lo i : Int)≤u∧u≤(hi i : Int)∧0≤u∧u < (L : Int)∧(nd t (2 * u.toNat)).kind = 1) ∧
    (∀ a b,a < b→b < L→(nd t (2 * a)).kind = 1→(nd t (2 * b)).kind = 1→(nd t (2 * b)).name≠(nd t (2 * a)).name)
theorem aA.DP {t : List aa} (h : aA t) : nT (aY t) t∧(aY t = 1∨∃ j,aY t / 2≤j∧j < aY t∧(Go.AM.nd t (2 * j)).kind = 1):=by
  obtain ⟨h1,h2⟩:=h.len;obtain ⟨k1,k2,k3⟩:=(pH h2 h1).1 h;exact ⟨⟨h2,h1,k1,k2⟩,k3⟩
theorem nT.right {t : List aa} {L : Nat} (h : nT L t) (k : L = 1∨∃ j,L / 2≤j∧j < L∧(nd t (2 * j)).kind = 1) : aA t :=
  (pH h.1 h.2.1).2 ⟨h.2.2.1,h.2.2.2,k⟩
theorem nT.aY {t : List aa} {L : Nat} (h : nT L t) : aY t = L:=jg h.1 h.2.1
theorem tI {N : aa} (h : N.right) {u : Int} (hu : u ∈ N.fF) : N.kind = 2:=by
  rcases j7 h with hk | hk | hk
  · rw [(j6 hk).1 h] at hu; cases hu
  · have:=((dT hk).1 h).2.2.2;rw [List.eq_nil_of_length_eq_zero this] at hu; cases hu
  · exact hk
theorem iR {t : List aa} {L : Nat} (hL : Fit L) (hlen : t.length = 2 * L - 1) {v : Nat} (hv : v≤L) (nh : v≠32) :
    ∃ L',L' = (if v = L then 2 * L else L)∧Fit L'∧(eB t v).length = 2 * L' - 1∧v < L'∧aY (eB t v) = L'∧L≤L':=by
  have hl:=jg hL hlen;have hb:=hL.le;refine ⟨_,rfl,?_⟩;have key : Fit (if v = L then 2 * L else L)∧(eB t v).length = 2 * (if v = L then 2 * L else L) - 1:=by
    unfold eB;rw [hl];split
    · rename_i e;refine ⟨?_,by simp; omega⟩;rw [e] at nh;unfold Fit at hL ⊢;omega
    · exact ⟨hL,hlen⟩
  refine ⟨key.1,key.2,?_,jg key.1 key.2,?_⟩
  · split <;> omega
  · split <;> omega
theorem AA {t : List aa} : aM t≤aY t:=(mP t).1
theorem wN {t : List aa} {L : Nat} (hL : Fit L) (hlen : t.length = 2 * L - 1) : (nd t (2 * aM t)).kind≠1:=by
  have hl:=jg hL hlen;obtain ⟨h1,h2,_⟩:=mP t;rw [hl] at h1;intro hk;by_cases e : aM t < L
  · exact h2 ((bW hl _).2 ⟨e,hk⟩)
  · rw [q9 (by omega)] at hk;cases hk
theorem pJ {t : List aa} {name : List UInt8} (h : ¬ 0≤fa t name 0) {L : Nat} (hL : Fit L) (hlen : t.length = 2 * L - 1) {j : Nat} (hj : j < L) (hk : (nd t (2 * j)).kind = 1) : (nd t (2 * j)).name≠name:=by
  intro e;have hl:=jg hL hlen;have hb:=hL.le;have h1:=rK (fun j=>decide (bx t j∧(nd t (2 * j)).name = name)) (iS t - 0) 0;have h2 : decide (0≤fa t name 0) = true:=h1.2 ⟨j,Nat.zero_le _,by unfold iS; omega,decide_eq_true ⟨(bW hl _).2 ⟨hj,hk⟩,e⟩⟩;exact h (of_decide_eq_true h2)
theorem Gn {t : List aa} {L : Nat} (hL : Fit L) (hlen : t.length = 2 * L - 1) {v : Nat} (hv : v≤L) (nh : v≠32) (n : aa) (i : Nat) :
    nd (iQ t v n) i = if i = 2 * v then n else if i ∈ aD v (aY (eB t v))∧(nd t i).kind = 2 then F1 (nd t i) v else nd t i:=by
  obtain ⟨L',_,q2,q3,q4,q5,_⟩:=iR hL hlen hv nh;unfold iQ;rw [q5];have hp:=fun x hx=>iw q2 q4 x hx;have hx : nd ((eB t v).set (2 * v) n) i = if i = 2 * v then n else nd t i:=by
    rw [tw,Jj];by_cases e : i = 2 * v
    · rw [if_pos ⟨e.symm,by omega⟩,if_pos e]
    · rw [if_neg (fun q=>e q.1.symm),if_neg e]
  rw [Af v _ _ (Ag q2 q4) (fun u hu=>by rw [List.length_set,q3]; exact (hp u hu).1),hx];by_cases e : i = 2 * v
  · rw [if_pos e,if_pos e,if_neg];intro q;have:=(hp _ q.1).2.1;omega
  · rw [if_neg e,if_neg e]
theorem rQ {t : List aa} (v : Nat) (n : aa) : (iQ t v n).length = (eB t v).length:=by
  unfold iQ;rw [wG,List.length_set]
theorem rh {t : List aa} (h : aA t) {n : aa} (hn : n.right) (hk : n.kind = 1) (NB : ¬ 0≤fa t n.name 0) (nh : aM t≠32) : aA (iQ t (aM t) n):=by
  obtain ⟨⟨hL,hlen,h1,h2⟩,h3⟩:=h.DP;have A7:=AA (t:=t);have hfk:=wN hL hlen;have Rh:=fun {j : Nat}=>pJ NB hL hlen (j:=j);generalize aM t = v at *
  generalize aY t = L at *
  obtain ⟨L',q1,q2,q3,q4,q5,q6⟩:=iR hL hlen A7 nh;have hnd:=Gn hL hlen A7 nh n;rw [q5] at hnd;have ri:=rQ (t:=t) v n;rw [q3] at ri;generalize iQ t v n = T at *
  have hp:=fun u=>ra q2 q4 u;have oU : ∀ j,j≠v→nd T (2 * j) = nd t (2 * j):=by
    intro j hj;rw [hnd,if_neg (by omega),if_neg];intro q;have:=((hp _).1 q.1).2.1;omega
  have Io : nd T (2 * v) = n:=(by rw [hnd,if_pos rfl]);have RH : ∀ j,(nd t (2 * j)).kind = 1→(nd T (2 * j)).kind = 1:=by
    intro j hj;rw [oU j (fun e=>hfk (by rw [← e]; exact hj))];exact hj
  have hold : ∀ i,(nd t i).kind≠0→i < 2 * L - 1:=by
    intro i hi;by_cases e : i < 2 * L - 1
    · exact e
    · rw [q9 (by omega)] at hi;exact absurd rfl hi
  have ZB : ∀ i,∀ u ∈ (nd t i).fF,(lo i : Int)≤u∧u≤(hi i : Int)∧0≤u∧u < (L' : Int)∧(nd T (2 * u.toNat)).kind = 1:=by
    intro i u hu;by_cases e : i < 2 * L - 1
    · obtain ⟨a1,a2,a3,a4,a5⟩:=(h1 i e).2.2 u hu;exact ⟨a1,a2,a3,by omega,RH _ a5⟩
    · rw [q9 (by omega)] at hu;cases hu
  have tH : ∀ i,(nd t i).right∧((nd t i).kind = 0∨((nd t i).kind = 1↔i % 2 = 0)):=by
    intro i;by_cases e : i < 2 * L - 1
    · exact ⟨(h1 i e).1,(h1 i e).2.1⟩
    · rw [q9 (by omega)];exact ⟨fH,.inl rfl⟩
  refine (pH q2 ri).2 ⟨fun i aO=>?_,fun a b tO Tg ha hb=>?_,?_⟩
  · rw [hnd i];by_cases e : i = 2 * v
    · rw [if_pos e];refine ⟨hn,.inr ⟨fun _=>by omega,fun _=>hk⟩,fun u hu=>?_⟩;have:=tI hn hu;omega
    · rw [if_neg e];by_cases e2 : i ∈ aD v L'∧(nd t i).kind = 2
      · rw [if_pos e2];obtain ⟨r1,r2⟩:=tH i;have hpi:=(hp i).1 e2.1;have T8:=(eQ e2.2).1 r1;have hvu : (v : Int) ∉ (nd t i).fF:=by
          intro hm;have:=((h1 i (hold i (by omega))).2.2 _ hm).2.2.2.2;rw [Int.toNat_natCast] at this;exact hfk this
        refine ⟨(eQ (show (F1 (nd t i) v).kind = 2 from e2.2)).2 ⟨T8.1,T8.2.1,F2 T8.2.2 hvu ?_⟩,r2,fun u hu=>?_⟩
        · have:=q2.le; omega
        · rcases (Ak _ _ _).1 hu with rfl | hu
          · refine ⟨by omega,by omega,by omega,by omega,?_⟩;rw [Int.toNat_natCast,Io];exact hk
          · exact ZB i u hu
      · rw [if_neg e2];exact ⟨(tH i).1,(tH i).2,ZB i⟩
  · by_cases ea : a = v
    · rw [ea,Io];rw [oU b (by omega)] at hb ⊢;exact Rh (by have:=hold _ (show (nd t (2 * b)).kind≠0 by omega); omega) hb
    · rw [oU a ea] at ha ⊢;by_cases eb : b = v
      · rw [eb,Io];intro e;exact Rh (j:=a) (by have:=hold _ (show (nd t (2 * a)).kind≠0 by omega); omega) ha e.symm
      · rw [oU b eb] at hb ⊢;exact h2 a b tO (by have:=hold _ (show (nd t (2 * b)).kind≠0 by omega); omega) ha hb
  · by_cases e : v = L
    · right;rw [if_pos e] at q1;exact ⟨v,by omega,q4,by rw [Io]; exact hk⟩
    · rw [if_neg e] at q1;subst q1;rcases h3 with h3 | ⟨j,a1,a2,a3⟩
      · exact .inl h3
      · exact .inr ⟨j,a1,a2,RH j a3⟩
def iL (l : List Nat) (t : List aa) : List aa:=l.foldl (fun t u=>t.set u aa.bp) t
def eK (t : List aa) (leaf : Nat) : List aa:=iL (aD leaf (aY t)) t
theorem fb : ∀ (l : List Nat) (t : List aa),(iL l t).length = t.length
  | [],_=>rfl
  | x :: l,t=>by
    have:=fb l (t.set x aa.bp);rw [List.length_set] at this;exact this
theorem CR : ∀ (l : List Nat) (t : List aa) (j : Nat),nd (iL l t) j = if j ∈ l then aa.bp else nd t j
  | [],t,j=>by simp [iL]
  | x :: l,t,j=>by
    have ih:=CR l (t.set x aa.bp) j;have e : iL (x :: l) t = iL l (t.set x aa.bp):=rfl;rw [e,ih];by_cases h : j ∈ l
    · rw [if_pos h,if_pos (List.mem_cons_of_mem _ h)]
    · rw [if_neg h,tw];by_cases h2 : x = j
      · rw [if_pos (show j ∈ x :: l by rw [h2]; exact List.mem_cons_self)];by_cases h3 : x < t.length
        · rw [if_pos ⟨h2,h3⟩]
        · rw [if_neg (fun q=>h3 q.2),q9 (by omega)]
      · rw [if_neg (fun q=>h2 q.1),if_neg];rw [List.mem_cons];rintro (q | q)
        · exact h2 q.symm
        · exact h q
def rj (t : List aa) (leaf : Nat) (n : aa) : List aa:=(eK t leaf).set (2 * leaf) n
theorem oV (t : List aa) (leaf : Nat) (n : aa) : (rj t leaf n).length = t.length:=by
  unfold rj eK;rw [List.length_set,fb]
theorem Ef {t : List aa} {L : Nat} (hL : Fit L) (hlen : t.length = 2 * L - 1) {leaf : Nat} (hl : leaf < L) (n : aa) (i : Nat) :
    nd (rj t leaf n) i = if i = 2 * leaf then n else if i ∈ aD leaf L then aa.bp else nd t i:=by
  unfold rj eK;rw [jg hL hlen,tw,CR,fb];by_cases e : i = 2 * leaf
  · rw [if_pos ⟨e.symm,by omega⟩,if_pos e]
  · rw [if_neg (fun q=>e q.1.symm),if_neg e]
theorem oW {t : List aa} {L : Nat} (h : nT L t) {leaf : Nat} (hl : leaf < L) {n : aa} (hn : n.right) (hk : n.kind = 0∨(n.kind = 1∧(nd t (2 * leaf)).kind = 1∧n.name = (nd t (2 * leaf)).name)) : nT L (rj t leaf n):=by
  obtain ⟨hL,hlen,h1,h2⟩:=h;have hnd:=Ef hL hlen hl n;have ri:=oV t leaf n;rw [hlen] at ri;generalize rj t leaf n = T at *
  have hp:=fun u=>ra hL hl u;have oU : ∀ j,j≠leaf→nd T (2 * j) = nd t (2 * j):=by
    intro j hj;rw [hnd,if_neg (by omega),if_neg];intro q;have:=((hp _).1 q).2.1;omega
  have Io : nd T (2 * leaf) = n:=(by rw [hnd,if_pos rfl]);have RI : ∀ a,(nd T (2 * a)).kind = 1→(nd t (2 * a)).kind = 1∧(nd T (2 * a)).name = (nd t (2 * a)).name:=by
    intro a ha;by_cases e : a = leaf
    · rw [e,Io] at ha ⊢;rcases hk with hk | hk
      · omega
      · exact ⟨hk.2.1,hk.2.2⟩
    · rw [oU a e] at ha ⊢;exact ⟨ha,rfl⟩
  refine ⟨hL,ri,fun i aO=>?_,fun a b tO Tg ha hb=>?_⟩
  · rw [hnd i];by_cases e : i = 2 * leaf
    · rw [if_pos e];refine ⟨hn,?_,fun u hu=>?_⟩
      · rcases hk with hk | hk
        · exact .inl hk
        · exact .inr ⟨fun _=>by omega,fun _=>hk.1⟩
      · have:=tI hn hu;omega
    · rw [if_neg e];by_cases e2 : i ∈ aD leaf L
      · rw [if_pos e2];exact ⟨fH,.inl rfl,fun u hu=>by cases hu⟩
      · rw [if_neg e2];obtain ⟨a1,a2,a3⟩:=h1 i aO;refine ⟨a1,a2,fun u hu=>?_⟩;obtain ⟨b1,b2,b3,b4,b5⟩:=a3 u hu;refine ⟨b1,b2,b3,b4,?_⟩;rw [oU _ (fun q=>e2 ((hp i).2 ⟨aO,?_,by omega,by omega⟩))]
        · exact b5
        · have m9:=tI a1 hu;rcases a2 with a2 | a2
          · omega
          · have : ¬ i % 2 = 0:=(fun q=>by have:=a2.2 q; omega);omega
  · obtain ⟨c1,c2⟩:=RI a ha;obtain ⟨d1,d2⟩:=RI b hb;rw [c2,d2];exact h2 a b tO Tg c1 d1
def wO (key : Nat) : Prop:=2≤(key : Int)∧(key : Int)≤2305843009213693949
instance (key : Nat) : Decidable (wO key):=by unfold wO; infer_instance
def tJ (t : List aa) (leaf key : Nat) : List aa:=rj t leaf (bq (nd t (2 * leaf)).name key)
def fV (t : List aa) (leaf : Int) (key : Nat) : List aa × Int :=
  if ¬ aA t then ([],40) else if ¬ bx t leaf then ([],43) else if ¬ wO key then ([],2) else (tJ t leaf.toNat key,0)
theorem AB {t : List aa} (h : aA t) {leaf : Nat} (hm : bx t (leaf : Int)) {key : Nat} (hk : (bq (nd t (2 * leaf)).name key).right) : aA (tJ t leaf key):=by
  obtain ⟨hg,h3⟩:=h.DP;have hl:=(bW rfl _).1 hm;refine (oW hg hl.1 hk (.inr ⟨rfl,hl.2,rfl⟩)).right ?_;rcases h3 with h3 | ⟨j,a1,a2,a3⟩
  · exact .inl h3
  · refine .inr ⟨j,a1,a2,?_⟩;rw [Ef hg.1 hg.2.1 hl.1];by_cases e : j = leaf
    · rw [if_pos (by omega)]; rfl
    · rw [if_neg (by omega),if_neg]
      · exact a3
      · intro q;have:=((ra hg.1 hl.1 _).1 q).2.1;omega
def sm (t : List aa) : List aa:=t.take (2 * (aY t / 2) - 1)
def la : Nat→List aa→List aa
  | 0,t=>t
  | f + 1,t=>if 1 < aY t∧dF (bx t) (aY t / 2) (aY t - aY t / 2) = 0 then la f (sm t) else t
theorem rk {t : List aa} {m : Nat} (h : nT (2 ^ (m + 1)) t) (h0 : dF (bx t) (2 ^ (m + 1) / 2) (2 ^ (m + 1) - 2 ^ (m + 1) / 2) = 0) : nT (2 ^ m) (sm t):=by
  have hl:=h.aY;obtain ⟨hL,hlen,h1,h2⟩:=h;have yh : 2 ^ (m + 1) = 2 * 2 ^ m:=(by rw [Nat.pow_succ]; omega);have zi:=Nat.two_pow_pos m;have hb:=hL.le;have hM : Fit (2 ^ m):=DY (by
    by_cases e : m≤5
    · exact e
    · have : 2 ^ 6≤2 ^ m:=Nat.pow_le_pow_right (by omega) (by omega);omega)
  unfold sm;rw [hl];generalize hQ : 2 ^ m = M at *
  rw [yh] at hlen h1 h2 h0 hl hb;have e1 : 2 * M / 2 = M:=(by omega);rw [yh,e1];rw [e1] at h0;have qL : ∀ j,M≤j→j < 2 * M→(nd t (2 * j)).kind≠1:=by
    intro j a b c;have : 0 < dF (bx t) M (2 * M - M):=oQ.2 ⟨j - M,by omega,by rw [show M + (j - M) = j by omega]; exact (bW hl _).2 ⟨b,c⟩⟩;omega
  have hnd : ∀ i,i < 2 * M - 1→nd (t.take (2 * M - 1)) i = nd t i:=by
    intro i aO;unfold nd;rw [List.getD_eq_getElem?_getD,List.getD_eq_getElem?_getD,List.getElem?_take,if_pos aO]
  refine ⟨hM,by rw [List.length_take]; omega,fun i aO=>?_,fun a b tO Tg ha Hr=>?_⟩
  · rw [hnd i aO];obtain ⟨a1,a2,a3⟩:=h1 i (by omega);refine ⟨a1,a2,fun u hu=>?_⟩;obtain ⟨b1,b2,b3,b4,b5⟩:=a3 u hu;have Ev : u.toNat < M:=by
      rcases Nat.lt_or_ge u.toNat M with q | q
      · exact q
      · exact absurd b5 (qL _ q (by omega))
    refine ⟨b1,b2,b3,by omega,?_⟩;rw [hnd _ (by omega)];exact b5
  · rw [hnd _ (by omega)] at ha Hr ⊢;rw [hnd _ (by omega)];exact h2 a b tO (by omega) ha Hr
theorem AD : ∀ (f m : Nat) (t : List aa),m≤f→nT (2 ^ m) t→aA (la f t)
  | 0,m,t,hm,h=>by
    obtain rfl : m = 0:=(by omega);exact h.right (.inl rfl)
  | f + 1,m,t,hm,h=>by
    simp only [la,h.aY];cases m with
    | zero =>
      rw [if_neg (fun q=>by have:=q.1; simp at this)];exact h.right (.inl rfl)
    | succ m =>
      by_cases h0 : dF (bx t) (2 ^ (m + 1) / 2) (2 ^ (m + 1) - 2 ^ (m + 1) / 2) = 0
      · have zi:=Nat.two_pow_pos m;rw [if_pos ⟨by rw [Nat.pow_succ]; omega,h0⟩];exact AD f m _ (by omega) (rk h h0)
      · rw [if_neg (fun q=>h0 q.2)];refine h.right (.inr ?_);obtain ⟨j,h1,h2⟩:=oQ.1 (Nat.pos_of_ne_zero h0);have:=(bW h.aY _).1 h2;exact ⟨_,by omega,this.1,this.2⟩
def KC (t : List aa) (leaf : Nat) : List aa:=la 6 (rj t leaf aa.bp)
def fW (t : List aa) (leaf : Int) : List aa × Int :=
  if ¬ aA t then ([],40) else if ¬ bx t leaf then ([],43) else if dF (bx t) 0 (aY t) = 1 then ([],40) else (KC t leaf.toNat,0)
theorem rR {t : List aa} (h : aA t) {leaf : Nat} (hl : leaf < aY t) : aA (KC t leaf):=by
  obtain ⟨hg,_⟩:=h.DP;have h1:=oW hg hl fH (.inl rfl);obtain ⟨m,hm,e⟩:=hg.1.pow;rw [e] at h1;exact AD 6 m _ (by omega) h1
theorem wP (t : List aa) : ∀ k,(oR t k).length = dF (bx t) 0 k
  | 0=>rfl
  | k + 1=>by
    simp only [oR,List.length_append,wP t k,dF,Nat.zero_add];split <;> rfl
def nameAt (t : List aa) (k : Nat) : List UInt8:=if bx t (k : Int) then (nd t (2 * k)).name else []
theorem AE {t : List aa} (h : aA t) (k : Nat) : nameAt t k = []↔¬ bx t (k : Int):=by
  unfold nameAt;split
  · rename_i hm;refine ⟨fun e=>?_,fun e=>absurd hm e⟩;have h1:=(dT hm.2.2).1 (h.nd _);rw [Int.toNat_natCast] at h1;rw [e] at h1;have:=h1.1;simp at this
  · rename_i hm;exact ⟨fun _=>hm,fun _=>rfl⟩
theorem AF {name : List UInt8} {key : Nat} : (bq name key).right↔(1≤name.length∧name.length≤16∧wO key):=by
  rw [dT (show (bq name key).kind = 1 from rfl)];simp only [bq,aa.held,wO,List.length_nil];constructor
  · rintro ⟨h1,h2,⟨h3,h4,_⟩,_⟩;exact ⟨h1,h2,by omega,by omega⟩
  · rintro ⟨h1,h2,h3,h4⟩;exact ⟨h1,h2,⟨by omega,by omega,.inl trivial⟩,trivial⟩
theorem KD {t : List aa} (h : aA t) {n : aa} (hn : n.right) (hk : n.kind = 1) (NB : ¬ 0≤fa t n.name 0) (nh : aM t≠32) (j : Nat) :
    (bx (iQ t (aM t) n) (j : Int)↔j = aM t∨bx t (j : Int))∧nameAt (iQ t (aM t) n) j = if j = aM t then n.name else nameAt t j:=by
  obtain ⟨⟨hL,hlen,h1,h2⟩,h3⟩:=h.DP;have A7:=AA (t:=t);have hfk:=wN hL hlen;have hR:=rh h hn hk NB nh;have hl:=jg hL hlen;generalize aM t = v at *
  obtain ⟨L',q1,q2,q3,q4,q5,q6⟩:=iR hL hlen A7 nh;have hnd:=Gn hL hlen A7 nh n;rw [q5] at hnd;have ri:=rQ (t:=t) v n;rw [q3] at ri;have Ft:=jg q2 ri;generalize iQ t v n = T at *
  have hp:=fun u=>ra q2 q4 u;have oU : ∀ j,j≠v→nd T (2 * j) = nd t (2 * j):=by
    intro j hj;rw [hnd,if_neg (by omega),if_neg];intro q;have:=((hp _).1 q.1).2.1;omega
  have Io : nd T (2 * v) = n:=(by rw [hnd,if_pos rfl]);have hm : bx T (j : Int)↔j = v∨bx t (j : Int):=by
    rw [bW Ft,bW rfl];by_cases e : j = v
    · rw [e,Io];exact ⟨fun _=>.inl rfl,fun _=>⟨q4,hk⟩⟩
    · rw [oU j e];constructor
      · rintro ⟨a1,a2⟩;refine .inr ⟨?_,a2⟩;rcases Nat.lt_or_ge j (aY t) with q | q
        · exact q
        · rw [q9 (by omega)] at a2; cases a2
      · rintro (a | ⟨a1,a2⟩)
        · exact absurd a e
        · exact ⟨by omega,a2⟩
  refine ⟨hm,?_⟩;unfold nameAt;by_cases e : j = v
  · rw [if_pos e,if_pos (hm.2 (.inl e)),e,Io]
  · rw [if_neg e,oU j e];have : bx T (j : Int)↔bx t (j : Int):=(by rw [hm]; exact ⟨fun q=>q.resolve_left e,.inr⟩);simp only [this]
theorem AG {t : List aa} {L : Nat} (hL : Fit L) (hlen : t.length = 2 * L - 1) {leaf : Nat} (hl : leaf < L) {n : aa} (j : Nat) :
    (bx (rj t leaf n) (j : Int)↔if j = leaf then n.kind = 1 else bx t (j : Int))∧nameAt (rj t leaf n) j = if j = leaf then (if n.kind = 1 then n.name else []) else nameAt t j:=by
  have hnd:=Ef hL hlen hl n;have ri:=oV t leaf n;rw [hlen] at ri;have e1:=jg hL hlen;have e2:=jg hL ri;generalize rj t leaf n = T at *
  have oU : ∀ j,j≠leaf→nd T (2 * j) = nd t (2 * j):=by
    intro j hj;rw [hnd,if_neg (by omega),if_neg];intro q;have:=((ra hL hl _).1 q).2.1;omega
  have Io : nd T (2 * leaf) = n:=(by rw [hnd,if_pos rfl]);have hm : bx T (j : Int)↔if j = leaf then n.kind = 1 else bx t (j : Int):=by
    rw [bW e2];by_cases e : j = leaf
    · rw [if_pos e,e,Io];exact ⟨fun q=>q.2,fun q=>⟨hl,q⟩⟩
    · rw [if_neg e,oU j e,bW e1]
  refine ⟨hm,?_⟩;unfold nameAt;by_cases e : j = leaf
  · rw [if_pos e] at hm ⊢;simp only [hm];rw [e,Io]
  · rw [if_neg e] at hm ⊢;simp only [hm,oU j e]
theorem KE {t : List aa} {m : Nat} (h : nT (2 ^ (m + 1)) t) (h0 : dF (bx t) (2 ^ (m + 1) / 2) (2 ^ (m + 1) - 2 ^ (m + 1) / 2) = 0) (j : Nat) : (bx (sm t) (j : Int)↔bx t (j : Int))∧nameAt (sm t) j = nameAt t j:=by
  have hg:=rk h h0;have e1:=h.aY;have e2:=hg.aY;have zi:=Nat.two_pow_pos m;have yh : 2 ^ (m + 1) = 2 * 2 ^ m:=(by rw [Nat.pow_succ]; omega);have hnd : ∀ i,i < 2 * 2 ^ m - 1→nd (sm t) i = nd t i:=by
    intro i aO;unfold sm nd;rw [List.getD_eq_getElem?_getD,List.getD_eq_getElem?_getD,List.getElem?_take,if_pos (by rw [e1,yh]; omega)]
  have hm : bx (sm t) (j : Int)↔bx t (j : Int):=by
    rw [bW e2,bW e1];constructor
    · rintro ⟨a1,a2⟩;rw [hnd _ (by omega)] at a2;exact ⟨by omega,a2⟩
    · rintro ⟨a1,a2⟩;by_cases e : j < 2 ^ m
      · exact ⟨e,by rw [hnd _ (by omega)]; exact a2⟩
      · exfalso;have : 0 < dF (bx t) (2 ^ (m + 1) / 2) (2 ^ (m + 1) - 2 ^ (m + 1) / 2) :=
          oQ.2 ⟨j - 2 ^ (m + 1) / 2,by omega,by rw [show 2 ^ (m + 1) / 2 + (j - 2 ^ (m + 1) / 2) = j by omega]; exact (bW e1 _).2 ⟨a1,a2⟩⟩
        omega
  refine ⟨hm,?_⟩;unfold nameAt;by_cases e : bx t (j : Int)
  · rw [if_pos e,if_pos (hm.2 e),hnd];have:=((bW e2 _).1 (hm.2 e)).1;omega
  · rw [if_neg e,if_neg (fun q=>e (hm.1 q))]
theorem AH : ∀ (f m : Nat) (t : List aa),m≤f→nT (2 ^ m) t→∀ j : Nat,(bx (la f t) (j : Int)↔bx t (j : Int))∧nameAt (la f t) j = nameAt t j
  | 0,m,t,hm,h,j=>⟨Iff.rfl,rfl⟩
  | f + 1,m,t,hm,h,j=>by
    simp only [la,h.aY];cases m with
    | zero =>
      rw [if_neg (fun q=>by have:=q.1; simp at this)];exact ⟨Iff.rfl,rfl⟩
    | succ m =>
      by_cases h0 : dF (bx t) (2 ^ (m + 1) / 2) (2 ^ (m + 1) - 2 ^ (m + 1) / 2) = 0
      · have zi:=Nat.two_pow_pos m;rw [if_pos ⟨by rw [Nat.pow_succ]; omega,h0⟩];obtain ⟨a1,a2⟩:=AH f m _ (by omega) (rk h h0) j;obtain ⟨b1,b2⟩:=KE h h0 j;exact ⟨a1.trans b1,a2.trans b2⟩
      · rw [if_neg (fun q=>h0 q.2)];exact ⟨Iff.rfl,rfl⟩
theorem KF {t : List aa} (h : aA t) {leaf : Nat} (hm : bx t (leaf : Int)) (key j : Nat) : (bx (tJ t leaf key) (j : Int)↔bx t (j : Int))∧nameAt (tJ t leaf key) j = nameAt t j:=by
  obtain ⟨h1,h2⟩:=h.len;have hl:=(bW rfl _).1 hm;obtain ⟨a1,a2⟩:=AG h2 h1 hl.1 (n:=bq (nd t (2 * leaf)).name key) j;unfold tJ;by_cases e : j = leaf
  · rw [if_pos e] at a1 a2;rw [if_pos (show (bq (nd t (2 * leaf)).name key).kind = 1 from rfl)] at a2;refine ⟨⟨fun _=>by rw [e]; exact hm,fun _=>a1.2 rfl⟩,?_⟩;rw [a2,e];unfold nameAt;rw [if_pos hm]; rfl
  · rw [if_neg e] at a1 a2;exact ⟨a1,a2⟩
theorem NC {t : List aa} (h : aA t) {leaf : Nat} (hl : leaf < aY t) (j : Nat) : (bx (KC t leaf) (j : Int)↔j≠leaf∧bx t (j : Int))∧nameAt (KC t leaf) j = if j = leaf then [] else nameAt t j:=by
  obtain ⟨hg,_⟩:=h.DP;have h1:=oW hg hl fH (.inl rfl);obtain ⟨m,hm,e⟩:=hg.1.pow;rw [e] at h1;obtain ⟨b1,b2⟩:=AH 6 m _ (by omega) h1 j;obtain ⟨a1,a2⟩:=AG hg.1 hg.2.1 hl (n:=aa.bp) j;unfold KC;rw [b1,b2,a1,a2];by_cases e : j = leaf
  · simp only [if_pos e];exact ⟨⟨fun q=>(by cases q),fun q=>absurd e q.1⟩,rfl⟩
  · simp only [if_neg e];exact ⟨⟨fun q=>⟨e,q⟩,fun q=>q.2⟩,trivial⟩
end Go.AM
namespace Go.Proofs.YtcjifoccjlpapaaGreatDoor
open Go Go.AM Go.Proofs Tryz
variable {Γ : Nat→List AV}
theorem p5 (name : List UInt8) (key : Nat) (hn : name.length≤2 ^ 45) (s : AS) : ah prog Γ 136 [ak name .any,.v (.int .u64 key)] s (fun r s'=>r = .agg [.v (.int .i64 1),ak name .any,.v (.int .u64 key),ak [] .any,bL]∧s' = s):=by
 refine ab func136 rfl ntmps136 results136 (by simp) ?_;have hc:=fun s=>eF (Γ:=Γ) name s hn;unfold ak at *
 refine wS fun K hK=>?_;refine jO ?_;intro o ho;refine hK _ _ ?_;clear hK K;refine wS fun K hK=>?_;refine jO ?_;refine ae (hc _) ?_;rintro r s1 ⟨rfl,rfl⟩;refine jM ?_;refine hK _ _ ?_;clear hK K;refine bo ?_;refine jX (o:=o) (off:=0) rfl (AS.aj _ _ _) (by rw [T.kX]; decide) (by simp only [↓DN,Qa,Qb,Qc,Qd,Qe,Qf,Qg,Qh,reduceCtorEq,↓reduceIte,Na,Nb,Nc,Nk,Nf,Ng,Nh,Za,Zb,Zc,TT]; rfl) ?_;exact ⟨_,s,AV.fR (.cons (AV.aL.refl _) (.cons (AV.aL.refl _) (.cons (AV.aL.refl _) (.cons AV.aP (.cons (AV.aL.refl _) .nil))))),AS.bg (AS.le.refl s) ho _,rfl,rfl⟩
theorem BP (hG : Γ 3 = eW.map nj) (t : List aa) (ht : cV t) (name : List UInt8) (key : Nat) (hn : name.length≤2 ^ 45) (h1 : aA t) (h2 : (bq name key).right) (h3 : ¬ 0≤fa t name 0) (s : AS) :
  ah prog Γ 141 [ax t,ak name .any,.v (.int .u64 key)] s (fun r s'=>(aM t = 32∧r = .dZ [bL,.v (.int .i64 0),.v (.int .i64 21)]∧s.le s') ∨
   (aM t≠32∧∃ X T,r = .dZ [X,.v (.int .i64 (aM t)),.v (.int .i64 0)]∧T.map (·.1) = iQ t (aM t) (bq name key)∧cz s s' X T)):=by
 have hc:=fun s=>p5 (Γ:=Γ) name key hn s;have hr:=fun s=>cW (Γ:=Γ) hG t ht s;have AJ:=fun s=>dY (Γ:=Γ) (bq name key) (by simp [bq]) s;have CU:=fun s=>og (Γ:=Γ) t ht.1 name 0 (by decide) s;have fM:=fun s=>ku (Γ:=Γ) t (by have:=h1.len; have:=fL t; omega) (fun n hn=>by have:=gM (h1.nodes hn); unfold qP; omega) s;have qF:=fun s=>eY (Γ:=Γ) t ht.1 s;obtain ⟨f1,f2,f3⟩:=mP t;have hlen:=h1.len;have Gp:=fL t;generalize xhM : fa t name 0 = nm at *
 refine ab func141 rfl ntmps141 results141 (by simp) ?_;rw [decide_eq_true h1] at hr;have cZ : (bq name key).cells = [.v (.int .i64 1),ak name .any,.v (.int .u64 key),ak [] .any,aC [] .any]:=rfl;rw [decide_eq_true h2,cZ] at AJ;replace AJ:=fun s=>ah.jq (.cons (AV.fR (.cons (AV.aL.refl _) (.cons (AV.aL.refl _) (.cons (AV.aL.refl _) (.cons (AV.aL.refl _) (.cons (AV.aP (sz:=1)) .nil)))))) .nil) (AJ s);unfold ax at *
 generalize au aa.cells t = X at *
 unfold ak bL at *
 rw [show (((0 : Nat) : Int)) = 0 from rfl] at CU;refine jA ?_;refine az 9 (by decide) ?_;intro K hK;refine jM ?_;refine ae (hc _) ?_;rintro r s1 ⟨rfl,rfl⟩;refine jM ?_;intro o ho;refine hK _ _ o _ rfl ho ?_;clear hK K ho;refine wK fun K hK=>?_;refine ag ?_;refine jK (hr _) ?_;rintro s2 rfl;refine jF ?_;refine jK (AJ _) ?_;rintro s3 rfl;refine jF ?_;refine jQ fun K hK=>?_;refine ae (CU _) ?_;rintro r s4 ⟨rfl,rfl⟩;refine jV (Ai @h3 (decide_eq_false h3)) hK ?_;clear hK K;refine jF ?_;refine ad ?_;refine hK _ _ ?_;clear hK K;refine jQ fun K hK=>?_;refine ae (fM _) ?_;rintro r s5 ⟨TS,Ip,hT⟩;refine jR hK ?_;clear hK K;refine jA ?_;refine wK fun K hK=>?_;refine ag ?_;have Gl : TS.length = t.length:=(by have:=congrArg List.length Ip; simpa using this);have hmO:=fun i=>BN (Γ:=Γ) hT (by omega) i;rw [Ip] at hmO;refine aH (fun E s2=>∃ i : Nat,i≤aM t∧E 11 = .v (.int .i64 i)∧E 10 = r∧E 0 = .sl 5 t.length X .any∧E 9 = .cX [.v (.int .i64 1),.sl 1 name.length (name.map aw) .any,.v (.int .u64 key),.sl 1 0 [] .any,.v (.slice none 0 0)]∧s2 = s5)
  (fun E _=>match E 11 with | .v (.int _ i)=>aM t - i.toNat | _=>0) ?_ ?_
 ·exact ⟨0,Nat.zero_le _,rfl,rfl,rfl,rfl,rfl⟩
 ·rintro E1 s6 ⟨i,hi,g11,g10,g0,g9,rfl⟩ -
  by_cases aO : i < aM t
  ·refine wK fun K2 aX=>?_;refine jS (Ai @g10 @g11) fun K hK=>?_;refine ae (hmO _) ?_;rintro r s7 ⟨rfl,rfl⟩;rw [decide_eq_true (f3 i aO)];refine jR hK ?_;clear hK K;refine jE ?_;refine ad ?_;refine aX _ _ ?_;clear aX K2;refine ag ?_;refine jD (Ai @g11 (aQ i (by omega))) ?_;refine ⟨⟨i + 1,by omega,rfl,g10,g0,g9,rfl⟩,?_⟩;simp only [g11,aG,↓reduceIte];omega
  ·obtain rfl : i = aM t:=(by omega);refine wK fun K2 aX=>?_;refine jS (Ai @g10 @g11) fun K hK=>?_;refine ae (hmO _) ?_;rintro r s7 ⟨rfl,rfl⟩;rw [decide_eq_false f2];refine jR hK ?_;clear hK K;refine jF ?_;refine aB ?_;simp only [av,aq,if_true];refine hK _ _ ?_;clear hK aX K2 K;refine wK fun K hK=>?_;clear hmO;have AK : ∀ (E : Env) (s7 s8 : AS) (X2 : AV) (T2 : List (aa × AV)),AS.tells Γ s7 s8→aM t≠32→E 11 = .v (.int .i64 (aM t))→E 10 = X2→E 9 = .cX [.v (.int .i64 1),.sl 1 name.length (name.map aw) .any,.v (.int .u64 key),.sl 1 0 [] .any,.v (.slice none 0 0)]→T2.map (·.1) = eB t (aM t)→cz s4 s8 X2 T2→K E s7:=by
    clear hT g10 g11 g0 g9 fM hr AJ hc qF CU Ip Gl TS r s7;intro E s7 s8 X2 T2 Ju nh g11 g10 g9 hT2 hO;refine hK _ _ ?_;clear hK K;refine iN Ju ?_;clear Ju s7;obtain ⟨L',q1,q2,q3,q4,q5,q6⟩:=iR hlen.2 hlen.1 f1 nh;have xhN : T2.length = 2 * L' - 1:=(by have:=congrArg List.length hT2; rw [q3] at this; simpa using this);have hb:=q2.le;have Ea : iQ t (aM t) (bq name key) = (aD (aM t) L').foldl (mO (aM t)) ((eB t (aM t)).set (2 * aM t) (bq name key)):=(by unfold iQ; rw [q5]);have Eg:=fun (i : Nat) (hi : i < (aD (aM t) L').length)=>Jl q2 q4 (bq name key) (t:=t) q3 hi;have Nq:=fun x hx=>iw q2 q4 x hx;have xd:=fk q2 q4;have ND:=fun s=>lH (Γ:=Γ) hG (aM t) L' q2 q4 s;obtain ⟨O,cap,rest,rfl,mX,lE,dA,jo⟩:=hO.dj (by omega);have Ru : 2 * aM t < T2.length:=(by omega);rw [Ea];have pL:=hO.PZ (u:=2 * aM t) (p:=(bq name key,bL)) Ru mX lE dA jo rfl rfl;have fU:=F3 Ru (bq name key,bL) rest;have ZC : (T2.set (2 * aM t) (bq name key,bL)).map (·.1) = (eB t (aM t)).set (2 * aM t) (bq name key):=(by rw [List.map_set,hT2]);rw [fU] at pL;have hcx : aK (bq name key,bL) = [.v (.int .i64 1),.sl 1 name.length (name.map aw) .any,.v (.int .u64 key),.sl 1 0 [] .any,.v (.slice none 0 0)]:=rfl;rw [hcx] at fU;have FK : (au aK T2 ++ rest).length = T2.length * 5 + rest.length:=(by rw [List.length_append,iz]);generalize hR : au aK T2 ++ rest = R at *
    have Iq:=bw (aM t) (by omega);have bK : (0 : Int)≤((2 * aM t : Nat) : Int):=(by omega);simp only [bm] at fU;refine jS (Ai @g10 (Ai @g11 (Ai @g9 (Ai @mX (Ai @Iq (Ai @bK (Ai @Ru @af))))))) fun K hK=>?_;refine ⟨by omega,hK _ _ ?_⟩;clear hK K;rw [fU];generalize hT3 : T2.set (2 * aM t) (bq name key,bL) = T3 at *
    have xcV : T3.length = T2.length:=(by rw [← hT3,List.length_set]);have ZD : aY (T3.map (·.1)) = L':=jg q2 (by rw [List.length_map]; omega);have ZE : (s8.set O (au aK T3 ++ rest)).aJ O = some (au aK T3 ++ rest):=AS.aj _ _ _;rw [← xcV] at pL lE dA g10 ⊢;clear fU hT3 hR FK mX hO hT2 bK Iq hcx Ru;generalize s8.set O (au aK T3 ++ rest) = s9 at *
    refine wK fun K hK=>?_;refine jS (Ai @g11 @g10) fun K hK=>?_;have hlO:=BO (Γ:=Γ) pL (by omega);rw [ZD] at hlO;refine ae hlO ?_;rintro r Cs ⟨rfl,rfl⟩;refine jN (Ai @g11 @g10) ?_;refine ae (ND _) ?_;rintro r Oc ⟨rfl,rfl⟩;unfold aC;have TJ:=bZ (aD (aM t) L');have Gq : ∀ (i : Nat) (hi : i < (aD (aM t) L').length),List.take 1 (List.drop i ((bt (aD (aM t) L')).map aE)) = [.v (.int .i64 (((aD (aM t) L')[i] : Nat) : Int))]:=by
     intro i hi;rw [dC (by rw [bZ]; exact hi)];simp [bt]
    have ye:=fun (i : Nat) (hi : i < (aD (aM t) L').length) (M : List aa)=>iB (mO (aM t)) M hi;have nI : (aD (aM t) L').take (aD (aM t) L').length = aD (aM t) L':=List.take_length;generalize bt (aD (aM t) L') = PI at *
    generalize aD (aM t) L' = P at *
    rw [TJ];generalize (eB t (aM t)).set (2 * aM t) (bq name key) = M at *
    refine jR hK ?_;clear hK K;refine ag ?_;refine aH (fun E s2=>∃ (i : Nat) (T4 : List (aa × AV)),i≤P.length∧E 61 = .v (.int .i64 i)∧E 60 = .v (.int .i64 P.length)∧E 59 = .sl 1 P.length (PI.map aE) .any∧E 11 = .v (.int .i64 (aM t))∧E 10 = .dj O 0 5 T3.length cap∧T4.length = T3.length∧T4.map (·.1) = (P.take i).foldl (mO (aM t)) M∧cz s4 s2 (.dj O 0 5 T3.length cap) T4)
     (fun E _=>match E 61 with | .v (.int _ i)=>P.length - i.toNat | _=>0) ?_ ?_
    ·exact ⟨0,T3,Nat.zero_le _,rfl,rfl,rfl,g11,g10,rfl,ZC,pL⟩
    ·clear g9 g10 g11 hlO ZE pL ZC lE dA ZD Oc;rintro E1 s5 ⟨i,T4,hi,TK,g60,g59,g11,g10,Ir,RJ,hO⟩ -
     by_cases aO : i < P.length
     ·refine jB (Ai @TK (Ai @g60 (Ai @af (decide_eq_true aO)))) ?_;refine wK fun K2 aX=>?_;refine jE ?_;refine ad ?_;refine aX _ _ ?_;clear aX K2;refine wK fun K3 bB=>?_;refine ag ?_;have bK : (0 : Int)≤((i : Nat) : Int):=(by omega);have bN:=Gq i aO;refine jB (Ai @TK (Ai @g59 (Ai @bK (Ai @af (Ai @aO @bN))))) ?_;have hpi:=Nq _ (List.getElem_mem aO);have Eh:=Eg i aO;have dc:=ye i aO M;generalize hu : P[i] = u at *
      have Ol : u < T4.length:=(by omega);have hu3 : u < T3.length:=(by omega);have rY : (0 : Int)≤((u : Nat) : Int):=(by omega);rw [← RJ,pE (by rw [List.length_map]; exact Ol),List.getElem_map] at Eh;rw [← RJ] at dc;obtain ⟨O2,JQ,gP,eO,mX,lE,dA,jo⟩:=hO.dj (by omega);rw [Ir] at eO;injection eO with e1 _ _ _ e5;subst e1 e5;have KX : (List.drop (u * 5) (au aK T4 ++ gP))[0]? = some (.v (.int .i64 (nd t u).kind)):=(by rw [CH Ol,← Eh]; rfl);have KR : (List.drop (u * 5 + 4) (au aK T4 ++ gP))[0]? = some (T4[u]).2:=(by rw [M6 Ol]; rfl);have FK : (au aK T4 ++ gP).length = T4.length * 5 + gP.length:=(by rw [List.length_append,iz]);have ZF : nd (T4.map (·.1)) u = nd t u:=(by rw [pE (by rw [List.length_map]; exact Ol),List.getElem_map,Eh]);have Ks:=hO;rw [← Ir] at Ks;have xcY:=fun (ob cap' m : Nat) (l : List Int) (rest' : List AV) (c1 : l.length≤cap') (c2 : cap' < 2 ^ 63) (c3 : rest'.length = cap' - l.length) (c4 : _∨∃ c0,(T4[u]).2 = .dj ob 0 1 m c0)=>Ks.ins Ol mX lE dA jo c1 c2 c3 c4;have RK:=hO.DH O rfl _ (List.getElem_mem Ol);clear Ks;generalize hR : au aK T4 ++ gP = R at *
      refine jB (Ai @g10 (Ai @rY (Ai @hu3 @af))) ?_;by_cases m9 : (nd t u).kind = 2
      ·refine jB (Ai @mX (Ai @KX (gB m9))) ?_;refine jE ?_;have tH : (nd t u).right:=h1.nd u;have NF:=((eQ m9).1 tH).2.2;have FJ:=(oi NF).imp (fun {a b} (h : a < b)=>Int.le_of_lt h);have Od:=iJ NF;have DR:=hO.xs.buf _ (List.getElem_mem Ol);rw [Eh] at DR;generalize hx : (T4[u]).2 = x at *
       have hsc:=Ay (Γ:=Γ) (aM t : Int) (by omega) FJ DR;generalize hl : (nd t u).fF = l at *
       refine jS (Ai @g11 (Ai @mX @KR)) fun K hK=>?_;refine ae hsc ?_;rintro r s6 ⟨rfl,rfl⟩;refine jR hK ?_;clear hK K;refine xV rfl (by simp only [Option.some.injEq,forall_eq']; decide) rfl (by simp only [Option.some.injEq,forall_eq']; decide) ?_;intro ops;refine jN (Ai @g11 (Ai @mX @KR)) ?_;refine ⟨_,_,fun G a w hr=>H8 (l:=l) (i:=l.countP (· < (aM t : Int))) (x:=(aM t : Int)) Zz rfl rfl underlying36 T.z3 T.c3 rfl (by kernel_rfl) (by simp) (by simp) (by simp only [aN,aG,Nc,↓reduceIte]; exact DR) (by simp only [aN,aG,Nc,↓reduceIte]) (by simp only [aN,aG,Nc,↓reduceIte]) List.countP_le_length (by omega) (by decide) hr,?_⟩;rintro r s7 ⟨ob,cap',rest',rfl,c1,c2,c3,nA,rfl⟩;simp only [aN,aG,Nc,↓reduceIte] at nA;have xcZ : O≠ob:=by
        rintro rfl;rcases nA with hf | ⟨c0,hf⟩
        ·rw [mX] at hf; cases hf
        ·rw [hf] at RK; exact RK rfl
       refine jN (Ai @g11 (Ai @mX @xcZ)) ?_;refine ⟨by omega,?_⟩;have KP:=M3 l (aM t : Int);have bR:=xcY ob cap' l.length (sj l (aM t : Int)) rest' (by omega) c2 (by omega) nA;rw [KP] at bR;simp only [bm] at bR;unfold sj at bR;simp only [List.map_append,List.map_cons,List.append_assoc,List.cons_append] at bR;refine bB _ _ ?_;clear bB K3;refine jD (Ai @TK (aQ i (by omega))) ?_;refine ⟨⟨i + 1,T4.set u ({ (T4[u]).1 with fF:=sj l (aM t : Int) },.dj ob 0 1 (l.length + 1) cap'),by omega,rfl,g60,g59,g11,g10,by rw [List.length_set]; exact Ir,?_,by rw [← Ir]; exact bR⟩,?_⟩
       ·rw [List.map_set,dc];unfold mO;rw [ZF,if_pos m9,Eh,hl]
       ·simp only [TK,aG,↓reduceIte];omega
      ·refine jB (Ai @mX (Ai @KX (e8 m9))) ?_;refine jF ?_;refine ad ?_;simp only [aq,av,if_true,if_false];refine bB _ _ ?_;clear bB K3;refine jD (Ai @TK (aQ i (by omega))) ?_;refine ⟨⟨i + 1,T4,by omega,rfl,g60,g59,g11,g10,Ir,?_,hO⟩,?_⟩
       ·rw [dc];unfold mO;rw [ZF,if_neg m9]
       ·simp only [TK,aG,↓reduceIte];omega
     ·refine jB (Ai @TK (Ai @g60 (Ai @af (decide_eq_false aO)))) ?_;refine wK fun K2 aX=>?_;refine jF ?_;refine aB ?_;simp only [av,aq,if_true];refine hK _ _ ?_;clear hK aX K2 K;obtain rfl : i = P.length:=(by omega);rw [nI] at RJ;refine jB (Ai @g10 @g11) ?_;refine jI ?_;exact ⟨_,_,AV.aL.refl _,AS.le.refl _,.inr ⟨nh,_,_,rfl,RJ,hO⟩⟩
   by_cases qH : aM t = aY t
   ·refine jS (Ai @g11 @g0) fun K hK=>?_;refine ae (qF _) ?_;rintro r s8 ⟨rfl,rfl⟩;refine jV (Mf qH) hK ?_;clear hK K;refine jE ?_;by_cases nh : aM t = 32
    ·refine wK fun K5 js=>?_;refine jB (Ai @g11 (gB (show (aM t : Int) = 32 by omega))) ?_;refine jE ?_;refine jA ?_;refine jI ?_;exact ⟨_,_,AV.aL.refl _,AS.le.refl _,.inl ⟨nh,rfl,hT.le⟩⟩
    ·refine wK fun K5 js=>?_;refine jB (Ai @g11 (e8 (show (aM t : Int)≠32 by omega))) ?_;refine jF ?_;refine ad ?_;refine js _ _ ?_;clear js K5;refine qC rfl (by simp) ?_;intro ops;refine jN (Ai @g10 (Ai @g0 (aQ t.length (by omega)))) ?_;refine ⟨_,fun G a w hr=>lj (n:=t.length) (k:=t.length + 1) (cs:=au aK TS) (e:=64) rfl underlying23 underlying3 T.Oa (by rw [T.kX]; decide) (by rw [T.kX]; rfl) rfl (by simp only [aN,aG,Nc,↓reduceIte]) (by omega) (by rw [T.L4]; omega) (by omega) (by rw [T.kX,← Gl]; simp only [aN,aG,Nc,↓reduceIte]; exact hT.row) hr.eval hr.st,?_⟩;rw [T.kX];rintro r9 s9 ⟨ob,cap,rest,rfl,dA,jo,lE,nA,rfl⟩;simp only [aN,aG,Nc,↓reduceIte] at nA;refine jN @g11 ?_;have LM:=hT.grow (ob:=ob) (cap:=cap) (by rw [Gl]; exact nA) jo t.length rest (by rw [Gl]; omega) (by rw [Gl]; exact lE);have hm : eB t (aM t) = t ++ List.replicate (t.length + 1) aa.bp:=if_pos qH;have hgf:=M7 Ip (t.length + 1);rw [← hm] at hgf;have Pw:=Ku (t.length + 1) TS rest;have Ju:=AS.j0 (Γ:=Γ) (AS.aj s8 ob _) Pw;rw [AS.set_set,List.append_assoc] at Ju;rw [Gl] at LM;exact AK _ _ _ _ _ Ju nh g11 rfl g9 hgf LM
   ·have hm : eB t (aM t) = t:=if_neg qH;rw [hm] at AK;refine jS (Ai @g11 @g0) fun K hK=>?_;refine ae (qF _) ?_;rintro r s8 ⟨rfl,rfl⟩;refine jV (Mg qH) hK ?_;clear hK K;refine jF ?_;refine ad ?_;refine AK _ _ _ _ TS (AS.tells.refl _) (by omega) g11 g10 g9 Ip hT
end Go.Proofs.YtcjifoccjlpapaaGreatDoor
