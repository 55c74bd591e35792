/- Contracts of functions, each walked once; each theorem states its conditions. -/
import Derived.Test.YtcjifoccjlpapaaGreatDoorAMp6
import Derived.Test.YtcjifoccjlpapaaGreatDoorW1
import Derived.Test.YtcjifoccjlpapaaGreatDoorW6
import Derived.Test.YtcjifoccjlpapaaGreatDoorW3
import Derived.Test.YtcjifoccjlpapaaGreatDoorAMp7
set_option linter.unusedSimpArgs false
set_option linter.unusedVariables false
open Nat renaming reduceLT → Na, reduceLeDiff → Nb, reduceEqDiff → Nc, reduceAdd → Nk, reduceMul → Nf, reducePow → Ng, reduceSub → Nh, reduceBEq → Nz
open Int renaming reduceLT → Za, reduceLE → Zb, reduceToNat → Zc
open And renaming intro → Ai
open Go.AM renaming ashift → Qa, aconv → Qb, aindexAddr → Qc, aindex → Qd, aslice → Qe, abuiltin → Qf, awp_reg_seq → wS, awp_reg_end → wE, awp_seq_k → wK, awp_cond_k → wC
open Go.AM.AV renaming cells → Qg, one → Qh
set_option maxRecDepth 100000
set_option maxHeartbeats 8000000
namespace Go.Proofs.YtcjifoccjlpapaaGreatDoor
open Go Go.AM Go.Proofs Tryz
variable {Γ : Nat→List AV}
theorem Gr (hG : Γ 3 = eW.map nj) (t : List aa) (ht : cV t) (name : List UInt8) (key : Nat) (hn : name.length≤2 ^ 45) (s : AS) :
  ah prog Γ 141 [ax t,ak name .any,.v (.int .u64 key)] s (fun r s'=>r = .dZ [fm (eo t name key).1,.v (.int .i64 (eo t name key).2.1),.v (.int .i64 (eo t name key).2.2)]∧s.le s'):=by
 have hc:=fun s=>mW (Γ:=Γ) name key hn s;have hr:=fun s=>cW (Γ:=Γ) hG t ht s;by_cases h1 : aA t
 ·have AJ:=fun s=>dY (Γ:=Γ) (bq name key) (by simp [bq]) s;by_cases h2 : (bq name key).right
  ·have CU:=fun s=>og (Γ:=Γ) t ht.1 name 0 (by decide) s;by_cases h3 : 0≤fa t name 0
   ·have bR : eo t name key = ([],0,31):=(by unfold eo; rw [if_neg (fun h=>h h1),if_neg (fun h=>h h2),if_pos h3]);rw [bR];generalize fa t name 0 = nm at *
    refine ab func141 rfl ntmps141 results141 (by simp) ?_;rw [decide_eq_true h1] at hr;have cZ : (bq name key).cells = [.v (.int .i64 1),ak name .any,.v (.int .u64 key),ak [] .any,aC [] .any]:=rfl;rw [decide_eq_true h2] at AJ;rw [cZ] at hc AJ;unfold ax at *
    generalize au aa.cells t = X at *
    unfold ak aC at *
    rw [show (((0 : Nat) : Int)) = 0 from rfl] at CU;refine jA ?_;refine az 9 (by decide) ?_;intro K hK;refine jM ?_;refine ae (hc _) ?_;rintro r s1 ⟨rfl,rfl⟩;refine jM ?_;intro o ho;refine hK _ _ o _ rfl ho ?_;clear hK K ho;refine wK fun K hK=>?_;refine ag ?_;refine jK (hr _) ?_;rintro s2 rfl;refine jF ?_;refine jK (AJ _) ?_;rintro s3 rfl;refine jF ?_;refine jQ fun K hK=>?_;refine ae (CU _) ?_;rintro r s4 ⟨rfl,rfl⟩;refine jV (Ai @h3 (decide_eq_true h3)) hK ?_;clear hK K;refine jE ?_;refine jA ?_;refine jI ?_;exact jW ⟨rfl,AS.le.refl _⟩
   ·refine ah.settle (BP hG t ht name key hn h1 h2 h3 s) ?_;have bR : eo t name key = if aM t = 32 then ([],0,21) else (iQ t (aM t) (bq name key),aM t,0):=by
     unfold eo;rw [if_neg (fun h=>h h1),if_neg (fun h=>h h2),if_neg h3]
    rw [bR];rintro r s1 (⟨nh,rfl,hle⟩ | ⟨nh,X,T,rfl,hT,hO⟩)
    ·rw [if_pos nh];exact ⟨s1,_,bf.refl _,rfl,hle⟩
    ·rw [if_neg nh];obtain ⟨s2,k1,k2⟩:=hO.settle (Γ:=Γ);refine ⟨s2,_,bf.P0 _ k1,?_,k2⟩;rw [hT];have dz : iQ t (aM t) (bq name key)≠[]:=by
      intro e;have hl:=h1.len;obtain ⟨L',_,q2,q3,_⟩:=iR hl.2 hl.1 AA nh;have h5:=rQ (t:=t) (aM t) (bq name key);have h6:=q2.le;rw [e,q3] at h5;simp at h5;omega
     simp only [fm,if_neg dz]
  ·have bR : eo t name key = ([],0,2):=(by unfold eo; rw [if_neg (fun h=>h h1),if_pos h2]);rw [bR];refine ab func141 rfl ntmps141 results141 (by simp) ?_;rw [decide_eq_true h1] at hr;have cZ : (bq name key).cells = [.v (.int .i64 1),ak name .any,.v (.int .u64 key),ak [] .any,aC [] .any]:=rfl;rw [decide_eq_false h2] at AJ;rw [cZ] at hc AJ;unfold ax at *
   generalize au aa.cells t = X at *
   unfold ak aC at *
   refine jA ?_;refine az 9 (by decide) ?_;intro K hK;refine jM ?_;refine ae (hc _) ?_;rintro r s1 ⟨rfl,rfl⟩;refine jM ?_;intro o ho;refine hK _ _ o _ rfl ho ?_;clear hK K ho;refine wK fun K hK=>?_;refine ag ?_;refine jK (hr _) ?_;rintro s2 rfl;refine jF ?_;refine jK (AJ _) ?_;rintro s3 rfl;refine jE ?_;refine jA ?_;refine jI ?_;exact jW ⟨rfl,AS.le.refl _⟩
 ·have bR : eo t name key = ([],0,40):=if_pos h1;rw [bR];refine ab func141 rfl ntmps141 results141 (by simp) ?_;rw [decide_eq_false h1] at hr;have cZ : (bq name key).cells = [.v (.int .i64 1),ak name .any,.v (.int .u64 key),ak [] .any,aC [] .any]:=rfl;rw [cZ] at hc;unfold ax at *
  generalize au aa.cells t = X at *
  unfold ak aC at *
  refine jA ?_;refine az 9 (by decide) ?_;intro K hK;refine jM ?_;refine ae (hc _) ?_;rintro r s1 ⟨rfl,rfl⟩;refine jM ?_;intro o ho;refine hK _ _ o _ rfl ho ?_;clear hK K ho;refine wK fun K hK=>?_;refine ag ?_;refine jK (hr _) ?_;rintro s2 rfl;refine jE ?_;refine jA ?_;refine jI ?_;exact jW ⟨rfl,AS.le.refl _⟩
theorem p7 (hG : Γ 3 = eW.map nj) (t : List aa) (ht : cV t) (h1 : aA t) (leaf : Nat) (eX : leaf < aY t) (s : AS) :
  ah prog Γ 194 [ax t,.v (.int .i64 leaf)] s (fun r s'=>∃ TS,TS.map (·.1) = eK t leaf∧cz s s' r TS):=by
 have fM:=fun s=>ku (Γ:=Γ) t (by have:=h1.len; have:=fL t; omega) (fun n hn=>by have:=gM (h1.nodes hn); unfold qP; omega) s;have qF:=fun s=>eY (Γ:=Γ) t ht.1 s;have hlen:=h1.len;have Gp:=fL t;have ND:=fun s=>lH (Γ:=Γ) hG leaf (aY t) hlen.2 eX s;have Nq:=fun x hx=>iw hlen.2 eX x hx;have xd:=fk hlen.2 eX;have hb : eK t leaf = (aD leaf (aY t)).foldl (fun t u=>t.set u aa.bp) t:=rfl;rw [hb];refine ab func194 rfl ntmps194 results194 (by simp) ?_;unfold ax at *
 generalize au aa.cells t = X at *
 refine jA ?_;refine jQ fun K hK=>?_;refine ae (fM _) ?_;rintro r s5 ⟨TS,Ip,hT⟩;refine jR hK ?_;clear hK K;refine wK fun K hK=>?_;refine jQ fun K hK=>?_;refine ae (qF _) ?_;rintro r s6 ⟨rfl,rfl⟩;refine jM ?_;refine ae (ND _) ?_;rintro r s7 ⟨rfl,rfl⟩;unfold aC;have Gl : TS.length = t.length:=(by have:=congrArg List.length Ip; simpa using this);have TJ:=bZ (aD leaf (aY t));have Gq : ∀ (i : Nat) (hi : i < (aD leaf (aY t)).length),List.take 1 (List.drop i ((bt (aD leaf (aY t))).map aE)) = [.v (.int .i64 (((aD leaf (aY t))[i] : Nat) : Int))]:=by
  intro i hi;rw [dC (by rw [bZ]; exact hi)];simp [bt]
 have ye:=fun (i : Nat) (hi : i < (aD leaf (aY t)).length) (M : List aa)=>iB (fun t u=>t.set u aa.bp) M hi;have nI : (aD leaf (aY t)).take (aD leaf (aY t)).length = aD leaf (aY t):=List.take_length;generalize bt (aD leaf (aY t)) = PI at *
 generalize aD leaf (aY t) = P at *
 rw [TJ];refine jR hK ?_;clear hK K;refine ag ?_;refine aH (fun E s2=>∃ (i : Nat) (T4 : List (aa × AV)),i≤P.length∧E 15 = .v (.int .i64 i)∧E 14 = .v (.int .i64 P.length)∧E 13 = .sl 1 P.length (PI.map aE) .any∧E 5 = r∧T4.length = t.length∧T4.map (·.1) = (P.take i).foldl (fun t u=>t.set u aa.bp) t∧cz s s2 r T4)
  (fun E _=>match E 15 with | .v (.int _ i)=>P.length - i.toNat | _=>0) ?_ ?_
 ·exact ⟨0,TS,Nat.zero_le _,rfl,rfl,rfl,rfl,Gl,Ip,hT⟩
 ·clear hT Ip Gl s7 fM qF ND;rintro E1 s5 ⟨i,T4,hi,g15,g14,g13,g5,Ir,RJ,hO⟩ -
  by_cases aO : i < P.length
  ·refine jB (Ai @g15 (Ai @g14 (Ai @af (decide_eq_true aO)))) ?_;refine wK fun K2 aX=>?_;refine jE ?_;refine ad ?_;refine aX _ _ ?_;clear aX K2;refine wK fun K3 bB=>?_;refine ag ?_;have bK : (0 : Int)≤((i : Nat) : Int):=(by omega);have bN:=Gq i aO;refine jB (Ai @g15 (Ai @g13 (Ai @bK (Ai @af (Ai @aO @bN))))) ?_;have hpi:=Nq _ (List.getElem_mem aO);have dc:=ye i aO t;generalize hu : P[i] = u at *
   have Ol : u < T4.length:=(by omega);have rY : (0 : Int)≤((u : Nat) : Int):=(by omega);obtain ⟨O2,JQ,gP,rfl,mX,lE,dA,jo⟩:=hO.dj (by omega);have FK : (au aK T4 ++ gP).length = T4.length * 5 + gP.length:=(by rw [List.length_append,iz]);have pL:=hO.PZ (p:=pN) Ol mX lE dA jo rfl rfl;have Pw:=wv (R:=au aK T4 ++ gP) (off:=u * 5) (a:=zN) (b:=aK pN) rfl (by rw [FK]; show u * 5 + 5≤_; omega) F4;have Ju:=AS.rI (Γ:=Γ) (s:=s5) (O:=O2) Pw;have hs : bm (au aK T4 ++ gP) (u * 5) zN = bm (au aK T4 ++ gP) (u * 5) [.v (.int .i64 0),.v (.slice none 0 0),.v (.int .u64 0),.v (.slice none 0 0),.v (.slice none 0 0)]:=rfl;rw [hs] at Ju;simp only [bm] at Ju;generalize hR : au aK T4 ++ gP = R at *
   refine jU (Ai @g5 (Ai @rY (Ai @Ol (Ai @af @mX)))) fun K hK=>?_;refine ⟨by omega,hK _ _ ?_⟩;clear hK K;simp only [aq,av,if_true,if_false];refine bB _ _ ?_;clear bB K3;refine iN Ju ?_;refine jD (Ai @g15 (aQ i (by omega))) ?_;refine ⟨⟨i + 1,T4.set u pN,by omega,rfl,g14,g13,g5,by rw [List.length_set]; exact Ir,?_,pL⟩,?_⟩
   ·rw [List.map_set,dc,RJ]; rfl
   ·simp only [g15,aG,↓reduceIte];omega
  ·refine jB (Ai @g15 (Ai @g14 (Ai @af (decide_eq_false aO)))) ?_;refine wK fun K2 aX=>?_;refine jF ?_;refine aB ?_;simp only [av,aq,if_true];refine hK _ _ ?_;clear hK aX K2 K;obtain rfl : i = P.length:=(by omega);rw [nI] at RJ;refine jB @g5 ?_;refine jI ?_;exact jW ⟨T4,RJ,hO⟩
theorem BQ (hG : Γ 3 = eW.map nj) (t : List aa) (ht : cV t) (leaf : Nat) (key : Nat) (h1 : aA t) (h2 : bx t (leaf : Int)) (h3 : wO key) (s : AS) :
  ah prog Γ 139 [ax t,.v (.int .i64 leaf),.v (.int .u64 key)] s (fun r s'=>∃ X T,r = .dZ [X,.v (.int .i64 0)]∧T.map (·.1) = tJ t leaf key∧cz s s' X T):=by
 have hr:=fun s=>cW (Γ:=Γ) hG t ht s;have hm:=fun s=>eu (Γ:=Γ) t ht.1 (leaf : Int) s;have hk:=fun s=>dd (Γ:=Γ) key s;have hlen:=h1.len;have Gp:=fL t;have eX:=((bW rfl _).1 h2).1;have Nu:=fun s=>p7 (Γ:=Γ) hG t ht h1 leaf eX s;have bN:=cT (t:=t) (i:=2 * leaf) (by omega);have Of:=(gM (h1.nd (2 * leaf))).1;have hN : nd t (2 * leaf) = nd t (2 * leaf):=rfl;have iS:=fun s=>p5 (Γ:=Γ) (nd t (2 * leaf)).name key (by omega) s;rw [decide_eq_true h1] at hr;rw [decide_eq_true h2] at hm;rw [decide_eq_true h3.1,decide_eq_true h3.2] at hk;have Is : tJ t leaf key = (eK t leaf).set (2 * leaf) (bq (nd t (2 * leaf)).name key):=rfl;have wQ : (eK t leaf).length = t.length:=(by unfold eK; rw [fb]);rw [Is];clear Is;unfold ax at *
 generalize au aa.cells t = X at *
 generalize nd t (2 * leaf) = N at *
 obtain ⟨nk,nm,ny,iq,nu⟩:=N;unfold aa.cells at bN;simp only at iS Of ⊢;refine ab func139 rfl ntmps139 results139 (by simp) ?_;unfold ak at *
 refine jA ?_;refine wK fun K hK=>?_;refine ag ?_;refine jK (hr _) ?_;rintro s1 rfl;refine jF ?_;refine jK (hm _) ?_;rintro s2 rfl;refine jF ?_;refine jK (hk _) ?_;rintro s3 rfl;refine jF ?_;refine ad ?_;refine hK _ _ ?_;clear hK K;refine jQ fun K hK=>?_;refine ae (Nu _) ?_;rintro r s5 ⟨TS,Ip,hT⟩;refine jR hK ?_;clear hK K;have Gl : TS.length = t.length:=(by have:=congrArg List.length Ip; rw [wQ] at this; simpa using this);have bK : (0 : Int)≤((2 * leaf : Nat) : Int):=(by omega);have Iq:=bw leaf (by omega);have ik : 2 * leaf < t.length:=(by omega);have IP : 2 * leaf < TS.length:=(by omega);obtain ⟨O2,JQ,gP,rfl,mX,lE,dA,jo⟩:=hT.dj (by omega);have FK : (au aK TS ++ gP).length = TS.length * 5 + gP.length:=(by rw [List.length_append,iz]);have pL:=hT.PZ (p:=(bq nm key,bL)) IP mX lE dA jo rfl rfl;have hcx : aK (bq nm key,bL) = [.v (.int .i64 1),.sl 1 nm.length (nm.map aw) .any,.v (.int .u64 key),.sl 1 0 [] .any,.v (.slice none 0 0)]:=rfl;rw [hcx] at pL;simp only [bm] at pL;generalize hR : au aK TS ++ gP = R at *
 unfold bL at *
 refine jS (Ai @Iq (Ai @bK (Ai @ik (Ai @af @bN)))) fun K hK=>?_;refine ae (iS _) ?_;rintro r s6 ⟨rfl,rfl⟩;refine jN (Ai @Iq (Ai @bK (Ai @IP (Ai @af @mX)))) ?_;refine ⟨by omega,hK _ _ ?_⟩;clear hK K;refine jA ?_;refine jI ?_;refine ⟨_,_,AV.aL.refl _,AS.le.refl _,_,_,rfl,?_,pL⟩;rw [List.map_set,Ip]
theorem gK {t : List aa} (h : t.length≠0) : fm t = ax t:=if_neg (fun e=>h (by rw [e]; rfl))
theorem AL (hG : Γ 3 = eW.map nj) (t : List aa) (ht : cV t) (leaf : Int) (key : Nat) (s : AS) :
  ah prog Γ 139 [ax t,.v (.int .i64 leaf),.v (.int .u64 key)] s (fun r s'=>r = .dZ [fm (fV t leaf key).1,.v (.int .i64 (fV t leaf key).2)]∧s.le s'):=by
 have hr:=fun s=>cW (Γ:=Γ) hG t ht s;have hm:=fun s=>eu (Γ:=Γ) t ht.1 leaf s;have hk:=fun s=>dd (Γ:=Γ) key s;by_cases h1 : aA t
 ·by_cases h2 : bx t leaf
  ·by_cases h3 : wO key
   ·obtain ⟨l,rfl⟩:=Int.eq_ofNat_of_zero_le h2.1;have bR : fV t (l : Int) key = (tJ t l key,0):=by
     unfold fV;rw [if_neg (fun h=>h h1),if_neg (fun h=>h h2),if_neg (fun h=>h h3),Int.toNat_natCast]
    rw [bR];refine ah.settle (BQ hG t ht l key h1 h2 h3 s) ?_;rintro r s1 ⟨X,T,rfl,hT,hO⟩;obtain ⟨s2,k1,k2⟩:=hO.settle (Γ:=Γ);refine ⟨s2,_,bf.P0 _ k1,?_,k2⟩;rw [hT,gK];rw [show (tJ t l key).length = t.length from oV _ _ _];have:=h1.len;have:=this.2.le;omega
   ·have bR : fV t leaf key = ([],2):=by
     unfold fV;rw [if_neg (fun h=>h h1),if_neg (fun h=>h h2),if_pos h3]
    rw [bR];rw [decide_eq_true h1] at hr;rw [decide_eq_true h2] at hm;have U6 : (decide (2≤(key : Int)) && decide ((key : Int)≤2305843009213693949)) = false:=by
     rw [Bool.and_eq_false_iff,decide_eq_false_iff_not,decide_eq_false_iff_not];unfold wO at h3;omega
    rw [U6] at hk;refine ab func139 rfl ntmps139 results139 (by simp) ?_;unfold ax at *
    generalize au aa.cells t = X at *
    refine jA ?_;refine wK fun K hK=>?_;refine ag ?_;refine jK (hr _) ?_;rintro s1 rfl;refine jF ?_;refine jK (hm _) ?_;rintro s2 rfl;refine jF ?_;refine jK (hk _) ?_;rintro s3 rfl;refine jE ?_;refine jA ?_;refine jI ?_;exact jW ⟨rfl,AS.le.refl _⟩
  ·have bR : fV t leaf key = ([],43):=by
    unfold fV;rw [if_neg (fun h=>h h1),if_pos h2]
   rw [bR];rw [decide_eq_true h1] at hr;rw [decide_eq_false h2] at hm;refine ab func139 rfl ntmps139 results139 (by simp) ?_;unfold ax at *
   generalize au aa.cells t = X at *
   refine jA ?_;refine wK fun K hK=>?_;refine ag ?_;refine jK (hr _) ?_;rintro s1 rfl;refine jF ?_;refine jK (hm _) ?_;rintro s2 rfl;refine jE ?_;refine jA ?_;refine jI ?_;exact jW ⟨rfl,AS.le.refl _⟩
 ·have bR : fV t leaf key = ([],40):=if_pos h1;rw [bR];rw [decide_eq_false h1] at hr;refine ab func139 rfl ntmps139 results139 (by simp) ?_;unfold ax at *
  generalize au aa.cells t = X at *
  refine jA ?_;refine wK fun K hK=>?_;refine ag ?_;refine jK (hr _) ?_;rintro s1 rfl;refine jE ?_;refine jA ?_;refine jI ?_;exact jW ⟨rfl,AS.le.refl _⟩
theorem vr {s : AS} {O n cap : Nat} {cs rest : List AV} (ho : s.aJ O = some (cs ++ rest)) (fM : cs.length = n * 5) (h0 : n≠0) (hn2 : n≤2 ^ 30) (iW : cs.all AV.one = true) :
  ah prog Γ 195 [.dj O 0 5 n cap] s (fun r s'=>∃ ob cap' rest',s.aJ ob = none∧r = .dj ob 0 5 n cap'∧n≤cap'∧cap' < 2 ^ 63∧rest'.length = (cap' - n) * 5∧s' = s.set ob (cs ++ rest')):=by
 refine ab func195 rfl ntmps195 results195 (by simp) ?_;have gi : iE 5 s (.dj O 0 5 n cap) = some (n,cs):=by
  simp only [iE,if_true,ho];rw [if_pos (by rw [List.length_append,fM]; omega),List.drop_zero,← fM,List.take_left]
 refine jA ?_;refine wK fun K hK=>?_;refine jA ?_;refine jF ?_;refine ad ?_;refine hK _ _ ?_;clear hK K;refine nG rfl (by decide) ?_;intro ops;refine jM ?_;refine ⟨_,fun G a w hr=>dP (n:=0) (m:=n) (cs:=[]) (ds:=cs) (e:=64) rfl underlying23 (by simp only [↓DN,Qa,Qb,Qc,Qd,Qe,Qf,Qg,Qh,reduceCtorEq,↓reduceIte,Na,Nb,Nc,Nk,Nf,Ng,Nh,Za,Zb,Zc,TT]; try rfl) T.Oa (by rw [T.kX]; decide) (by rw [T.kX]; rfl) (by rw [T.kX]; simp only [aN,aG,Nc,↓reduceIte]; exact gi) h0 (by rw [T.L4]; omega) (by omega) iW (by rw [T.kX]; exact .inl ⟨rfl,rfl,.inr (.inr rfl)⟩) hr.eval hr.st,?_⟩;rw [T.kX];rintro r s1 ⟨ob,cap',rest',rfl,dA,jo,lE,eU,rfl⟩;refine jM ?_;have eU : s.aJ ob = none:=by
  rcases eU with h | ⟨_,h⟩
  ·exact h
  ·simp [aN,aG] at h
 rw [Nat.zero_add] at *
 refine jI ?_;exact jW ⟨ob,cap',rest',eU,rfl,dA,jo,lE,rfl⟩
theorem Gs (m : Nat) (h : m < 2 ^ 62) : ou .i64 (m : Int) 2 = ((m / 2 : Nat) : Int):=dR m (by omega)
theorem BR (hG : Γ 3 = eW.map nj) (t : List aa) (ht : cV t) (leaf : Nat) (h1 : aA t) (h2 : bx t (leaf : Int)) (h3 : dF (bx t) 0 (aY t)≠1) (s : AS) :
  ah prog Γ 140 [ax t,.v (.int .i64 leaf)] s (fun r s'=>∃ X T,r = .dZ [X,.v (.int .i64 0)]∧T.map (·.1) = KC t leaf∧cz s s' X T):=by
 have hr:=fun s=>cW (Γ:=Γ) hG t ht s;have hm:=fun s=>eu (Γ:=Γ) t ht.1 (leaf : Int) s;have qF:=fun s=>eY (Γ:=Γ) t ht.1 s;have hlen:=h1.len;have Gp:=fL t;have It:=fun s=>kv (Γ:=Γ) t ht.1 0 (aY t) (by omega) s;have eX:=((bW rfl _).1 h2).1;have Nu:=fun s=>p7 (Γ:=Γ) hG t ht h1 leaf eX s;rw [decide_eq_true h1] at hr;rw [decide_eq_true h2] at hm;rw [Nat.zero_add] at It;have wQ : (eK t leaf).length = t.length:=(by unfold eK; rw [fb]);have CV : (eK t leaf).set (2 * leaf) aa.bp = rj t leaf aa.bp:=rfl;have fX:=oW h1.DP.1 eX fH (.inl rfl);have Pl : KC t leaf = la 6 (rj t leaf aa.bp):=rfl;rw [Pl];have Jv:=oV t leaf aa.bp;generalize rj t leaf aa.bp = B at *
 refine ab func140 rfl ntmps140 results140 (by simp) ?_;unfold ax at *
 generalize au aa.cells t = X at *
 have e1 : ed .i64 ((aY t : Nat) : Int) 1 = ((aY t : Nat) : Int) - 1:=b6 (by omega);refine jA ?_;refine jK (qF _) ?_;rintro s0 rfl;refine wK fun K hK=>?_;refine ag ?_;refine jK (hr _) ?_;rintro s1 rfl;refine jF ?_;refine jK (hm _) ?_;rintro s2 rfl;refine jF ?_;refine jS @e1 fun K hK=>?_;refine ae (It _) ?_;rintro r s3 ⟨rfl,rfl⟩;refine jV (e8 (show ((dF (bx t) 0 (aY t) : Nat) : Int)≠1 by omega)) hK ?_;clear hK K;refine jF ?_;refine ad ?_;refine hK _ _ ?_;clear hK K;refine jQ fun K hK=>?_;refine ae (Nu _) ?_;rintro r s5 ⟨TS,Ip,hT⟩;refine jR hK ?_;clear hK K;have Gl : TS.length = t.length:=(by have:=congrArg List.length Ip; rw [wQ] at this; simpa using this);have bK : (0 : Int)≤((2 * leaf : Nat) : Int):=(by omega);have Iq:=bw leaf (by omega);have IP : 2 * leaf < TS.length:=(by omega);obtain ⟨O,cap,gP,rfl,mX,lE,dA,jo⟩:=hT.dj (by omega);have FK : (au aK TS ++ gP).length = TS.length * 5 + gP.length:=(by rw [List.length_append,iz]);have pL:=hT.PZ (p:=pN) IP mX lE dA jo rfl rfl;have Pw:=wv (R:=au aK TS ++ gP) (off:=(2 * leaf) * 5) (a:=zN) (b:=aK pN) rfl (by rw [FK]; show 2 * leaf * 5 + 5≤_; omega) F4;have Ju:=AS.rI (Γ:=Γ) (s:=s5) (O:=O) Pw;have hs : bm (au aK TS ++ gP) (2 * leaf * 5) zN = bm (au aK TS ++ gP) (2 * leaf * 5) [.v (.int .i64 0),.v (.slice none 0 0),.v (.int .u64 0),.v (.slice none 0 0),.v (.slice none 0 0)]:=rfl;rw [hs] at Ju;simp only [bm] at Ju;generalize hR : au aK TS ++ gP = R at *
 refine jS (Ai @Iq (Ai @bK (Ai @IP (Ai @af @mX)))) fun K hK=>?_;refine ⟨by omega,hK _ _ ?_⟩;clear hK K;refine iN Ju ?_;have hT6 : (TS.set (2 * leaf) pN).map (·.1) = B:=(by rw [List.map_set,Ip]; exact CV);have xc1 : (TS.set (2 * leaf) pN).length = TS.length:=List.length_set ..;rw [← xc1] at pL ⊢;generalize TS.set (2 * leaf) pN = T6 at *
 generalize s5.set O (bm R (2 * leaf * 5) (aK pN)) = s6 at *
 obtain ⟨m0,JF,rV⟩:=hlen.2.pow;rw [rV] at fX ⊢;clear Ju hs Pw FK hR mX lE Nu It hm hr qF wQ hT CV;have RL : T6.length≤cap:=(by omega);refine wK fun K hK=>?_;have gC : ∀ (E : Env) (s2 : AS) (T : List (aa × AV)),E 7 = .dj O 0 5 T.length cap→T.length≠0→T.length≤63→T.map (·.1) = la 6 B→cz s3 s2 (.dj O 0 5 T.length cap) T→K E s2:=by
  intro E s2 T g7 hT0 xhQ hTB hO;refine hK _ _ ?_;clear hK K;obtain ⟨O2,JQ,xfU,eO,mX,lE,dA,jo⟩:=hO.dj hT0;injection eO with q1 _ _ _ q5;subst q1 q5;have fM:=vr (Γ:=Γ) (cap:=cap) mX (iz T) hT0 (by omega) hO.xcn;refine jS @g7 fun K hK=>?_;refine ae fM ?_;rintro r s9 ⟨ob,cap',rest',eU,rfl,c1,c2,c3,rfl⟩;refine jR hK ?_;clear hK K;refine jI ?_;exact jW ⟨_,T,rfl,hTB,hO.Tw eU c1 c2 c3⟩
 clear hK;refine ag ?_;refine aH (fun E s2=>∃ (m f : Nat) (T : List (aa × AV)),m≤f∧m≤5∧E 6 = .v (.int .i64 ((2 ^ m : Nat) : Int))∧E 7 = .dj O 0 5 T.length cap∧nT (2 ^ m) (T.map (·.1))∧la 6 B = la f (T.map (·.1))∧T.length≤cap∧cz s3 s2 (.dj O 0 5 T.length cap) T)
  (fun E _=>match E 6 with | .v (.int _ i)=>i.toNat | _=>0) ?_ ?_
 ·exact ⟨m0,6,T6,by omega,JF,rfl,rfl,by rw [hT6]; exact fX,by rw [hT6],RL,pL⟩
 ·clear pL hT6 RL fX;rintro E1 s2 ⟨m,f,T,OM,hm5,g6,g7,hg,hB,xfV,hO⟩ -
  have xhS : T.length = 2 * 2 ^ m - 1:=(by have:=hg.2.1; rwa [List.length_map] at this);have hp5:=kt hm5;refine wK fun K2 aX=>?_;cases m with
  | zero =>
   have bO : la f (T.map (·.1)) = T.map (·.1):=by
    cases f with
    | zero=>rfl
    | succ f=>simp only [la,hg.aY]; rw [if_neg (fun q=>by have:=q.1; simp at this)]
   refine jB (Ai @g6 (Ai @g7 (decide_eq_false (show ¬ (1 : Int) < ((2 ^ 0 : Nat) : Int) by decide)))) ?_;refine jF ?_;refine aB ?_;simp only [av,aq,if_true];refine gC _ _ T g7 (by omega) (by omega) (by rw [hB,bO]) hO
  | succ m =>
   have yh : 2 ^ (m + 1) = 2 * 2 ^ m:=(by rw [Nat.pow_succ]; omega);have Nq:=Nat.two_pow_pos m;have iH:=Az (Γ:=Γ) hO (by omega) (2 ^ (m + 1) / 2) (2 ^ (m + 1) - 2 ^ (m + 1) / 2) (by omega);rw [show 2 ^ (m + 1) / 2 + (2 ^ (m + 1) - 2 ^ (m + 1) / 2) = 2 ^ (m + 1) by omega] at iH;have RM:=fun h0=>rk (m:=m) (t:=T.map (·.1)) hg h0;have qF:=hg.aY;have Pz:=fun s=>n6 (Γ:=Γ) ((2 ^ (m + 1) / 2 : Nat) : Int) s;have hq : 2 ^ (m + 1) / 2 = 2 ^ m:=(by omega);have As : HG ((2 ^ (m + 1) / 2 : Nat) : Int) = ((2 * 2 ^ m - 1 : Nat) : Int):=by
    unfold HG;rw [hq,if_pos (mC.2 (DY (by omega)))];omega
   rw [As] at Pz;have Qm:=Gs (2 ^ (m + 1)) (by omega);have UD : ed .i64 ((2 ^ (m + 1) : Nat) : Int) 1 = ((2 ^ (m + 1) : Nat) : Int) - 1:=b6 (by omega);obtain ⟨f,rfl⟩ : ∃ f',f = f' + 1:=⟨f - 1,by omega⟩;have TC : la (f + 1) (T.map (·.1)) = if 1 < 2 ^ (m + 1)∧dF (bx (T.map (·.1))) (2 ^ (m + 1) / 2) (2 ^ (m + 1) - 2 ^ (m + 1) / 2) = 0 then la f (sm (T.map (·.1))) else T.map (·.1):=by
    simp only [la,qF]
   rw [TC] at hB;have Iu : sm (T.map (·.1)) = (T.take (2 * 2 ^ m - 1)).map (·.1):=(by unfold sm; rw [qF,hq,List.map_take]);have hOc:=hO.cut (k:=2 * 2 ^ m - 1) (by omega);have IU : decide ((1 : Int) < ((2 ^ (m + 1) : Nat) : Int)) = true:=decide_eq_true (by omega);by_cases h0 : dF (bx (T.map (·.1))) (2 ^ (m + 1) / 2) (2 ^ (m + 1) - 2 ^ (m + 1) / 2) = 0
   ·rw [if_pos ⟨by omega,h0⟩,Iu] at hB;replace RM:=RM h0;rw [Iu] at RM;refine jS (Ai @g6 (Ai @g7 (Ai @IU (Ai @Qm @UD)))) fun K hK=>?_;refine ae iH ?_;rintro r s8 ⟨rfl,rfl⟩;refine jV (Dq h0) hK ?_;clear hK K;refine jE ?_;refine ad ?_;refine aX _ _ ?_;clear aX K2;refine wK fun K3 bB=>?_;refine ag ?_;have hle : 2 * 2 ^ m - 1≤cap:=(by omega);have bK : (0 : Int)≤((2 * 2 ^ m - 1 : Nat) : Int):=(by omega);have xc3 : ((2 * 2 ^ m - 1 : Nat) : Int)≤(cap : Int):=(by omega);refine jU (Ai @g6 (Ai @g7 @Qm)) fun K hK=>?_;refine ae (Pz _) ?_;rintro r s9 ⟨rfl,rfl⟩;simp only [↓DM,cw,DX,Nz,↓DN,Qa,Qb,Qc,Qd,Qe,Qf,Qg,Qh,reduceCtorEq,↓reduceIte,Na,Nb,Nc,Nk,Nf,Ng,Nh,Za,Zb,Zc,TT,bK,xc3,ite_self,Nat.sub_zero];refine hK _ _ ?_;clear hK K;refine bB _ _ ?_;clear bB K3;refine jD (Ai @g6 (Ai @Qm @hq)) ?_;have tT : (T.take (2 * 2 ^ m - 1)).length = 2 * 2 ^ m - 1:=(by rw [List.length_take]; omega);refine ⟨⟨m,f,T.take (2 * 2 ^ m - 1),by omega,by omega,rfl,by rw [tT]; simp only [aG,Nc,↓reduceIte],RM,hB,by omega,by rw [tT]; exact hOc⟩,?_⟩;simp only [g6,aG,↓reduceIte];omega
   ·rw [if_neg (fun q=>h0 q.2)] at hB;refine jS (Ai @g6 (Ai @g7 (Ai @IU (Ai @Qm @UD)))) fun K hK=>?_;refine ae iH ?_;rintro r s8 ⟨rfl,rfl⟩;refine jV (uI h0) hK ?_;clear hK K;refine jF ?_;refine aB ?_;simp only [av,aq,if_true];refine gC _ _ T g7 (by omega) (by omega) hB.symm hO
theorem ah.tidy {P : Program} {f : FuncId} {args : List AV} {s : AS} {Q : AV→Prop} (h : ah P Γ f args s (fun r s'=>Q r∧s.le s')) : ah P Γ f args s (fun r s'=>Q r∧s' = s) :=
 ah.settle h fun r s1 ⟨h1,h2⟩=>⟨s,r,bf.le r h2,h1,rfl⟩
theorem AO (hG : Γ 3 = eW.map nj) (t : List aa) (ht : cV t) (leaf : Int) (s : AS) :
  ah prog Γ 140 [ax t,.v (.int .i64 leaf)] s (fun r s'=>r = .dZ [fm (fW t leaf).1,.v (.int .i64 (fW t leaf).2)]∧s.le s'):=by
 have hr:=fun s=>cW (Γ:=Γ) hG t ht s;have hm:=fun s=>eu (Γ:=Γ) t ht.1 leaf s;have qF:=fun s=>eY (Γ:=Γ) t ht.1 s;by_cases h1 : aA t
 ·by_cases h2 : bx t leaf
  ·have Gp:=fL t;by_cases h3 : dF (bx t) 0 (aY t) = 1
   ·have It:=fun s=>kv (Γ:=Γ) t ht.1 0 (aY t) (by omega) s;have bR : fW t leaf = ([],40):=by
     unfold fW;rw [if_neg (fun h=>h h1),if_neg (fun h=>h h2),if_pos h3]
    rw [bR];rw [decide_eq_true h1] at hr;rw [decide_eq_true h2] at hm;rw [Nat.zero_add,h3] at It;have e1 : ed .i64 ((aY t : Nat) : Int) 1 = ((aY t : Nat) : Int) - 1:=b6 (by omega);refine ab func140 rfl ntmps140 results140 (by simp) ?_;unfold ax at *
    generalize au aa.cells t = X at *
    refine jA ?_;refine jK (qF _) ?_;rintro s0 rfl;refine wK fun K hK=>?_;refine ag ?_;refine jK (hr _) ?_;rintro s1 rfl;refine jF ?_;refine jK (hm _) ?_;rintro s2 rfl;refine jF ?_;refine jS @e1 fun K hK=>?_;refine ae (It _) ?_;rintro r s3 ⟨rfl,rfl⟩;refine jV (show (((1 : Nat) : Int) == 1) = true from rfl) hK ?_;clear hK K;refine jE ?_;refine jA ?_;refine jI ?_;exact jW ⟨rfl,AS.le.refl _⟩
   ·obtain ⟨l,rfl⟩:=Int.eq_ofNat_of_zero_le h2.1;have bR : fW t (l : Int) = (KC t l,0):=by
     unfold fW;rw [if_neg (fun h=>h h1),if_neg (fun h=>h h2),if_neg h3,Int.toNat_natCast]
    rw [bR];refine ah.settle (BR hG t ht l h1 h2 h3 s) ?_;rintro r s1 ⟨X,T,rfl,hT,hO⟩;obtain ⟨s2,k1,k2⟩:=hO.settle (Γ:=Γ);refine ⟨s2,_,bf.P0 _ k1,?_,k2⟩;have hR:=rR h1 ((bW rfl _).1 h2).1;rw [hT,gK];obtain ⟨q1,q2⟩:=hR.len;have:=q2.le;show (KC t l).length≠0;omega
  ·have bR : fW t leaf = ([],43):=by
    unfold fW;rw [if_neg (fun h=>h h1),if_pos h2]
   rw [bR];rw [decide_eq_true h1] at hr;rw [decide_eq_false h2] at hm;refine ab func140 rfl ntmps140 results140 (by simp) ?_;unfold ax at *
   generalize au aa.cells t = X at *
   refine jA ?_;refine jK (qF _) ?_;rintro s0 rfl;refine wK fun K hK=>?_;refine ag ?_;refine jK (hr _) ?_;rintro s1 rfl;refine jF ?_;refine jK (hm _) ?_;rintro s2 rfl;refine jE ?_;refine jA ?_;refine jI ?_;exact jW ⟨rfl,AS.le.refl _⟩
 ·have bR : fW t leaf = ([],40):=if_pos h1;rw [bR];rw [decide_eq_false h1] at hr;refine ab func140 rfl ntmps140 results140 (by simp) ?_;unfold ax at *
  generalize au aa.cells t = X at *
  refine jA ?_;refine jK (qF _) ?_;rintro s0 rfl;refine wK fun K hK=>?_;refine ag ?_;refine jK (hr _) ?_;rintro s1 rfl;refine jE ?_;refine jA ?_;refine jI ?_;exact jW ⟨rfl,AS.le.refl _⟩
end Go.Proofs.YtcjifoccjlpapaaGreatDoor
namespace Go.AM
open Go Go.RowKit
variable {P : Program} {Γ : Nat→List AV} {s : AS}
theorem Iv {α : Type} {c : α→List AV} {l : List α} {u : Nat} (h : u < l.length) : au c l = au c (l.take u) ++ c l[u] ++ au c (l.drop (u + 1)):=by
  have e : l = l.take u ++ l[u] :: l.drop (u + 1):=(by rw [List.getElem_cons_drop,List.take_append_drop]);have e2 : au c l = au c (l.take u ++ l[u] :: l.drop (u + 1)):=(by rw [← e]);rw [e2];simp only [au,List.map_append,List.map_cons,List.flatten_append,List.flatten_cons,List.append_assoc]
theorem qQ {α : Type} {c : α→List AV} {k : Nat} (hk : ∀ a,(c a).length = k) {l : List α} {u : Nat} (h : u < l.length) (a : α) (rest : List AV) : bm (au c l ++ rest) (u * k) (c a) = au c (l.set u a) ++ rest:=by
  have hl : (au c (l.take u)).length = u * k:=(by rw [cL hk,List.length_take]; congr 1; omega);have e2 : au c (l.set u a) = au c (l.take u) ++ c a ++ au c (l.drop (u + 1)):=by
    rw [List.set_eq_take_append_cons_drop,if_pos h];simp [au]
  rw [e2,Iv h];rw [Mac.iy _ _ _ (by simp [hk,hl])];have a1 : (au c (l.take u) ++ c l[u] ++ au c (l.drop (u + 1)) ++ rest).take (u * k) = au c (l.take u):=by
    rw [List.append_assoc,List.append_assoc,← hl,List.take_left]
  have a2 : (au c (l.take u) ++ c l[u] ++ au c (l.drop (u + 1)) ++ rest).drop (u * k + (c a).length) = au c (l.drop (u + 1)) ++ rest:=by
    have e3 : u * k + (c a).length = (au c (l.take u) ++ c l[u]).length:=(by rw [List.length_append,hl,hk,hk]);rw [e3,List.append_assoc _ _ rest,List.drop_left]
  rw [a1,a2];simp
theorem AP (t : List aa) : (au aa.cells t).all AV.one = true:=by
  rw [List.all_eq_true];intro c hc;obtain ⟨r,hr,hc⟩:=List.mem_flatten.1 hc;obtain ⟨p,hp,rfl⟩:=List.mem_map.1 hr;simp only [aa.cells,List.mem_cons,List.not_mem_nil,or_false] at hc;rcases hc with rfl | rfl | rfl | rfl | rfl <;> rfl
theorem bf.tree {s : AS} {ob cap : Nat} {t : List aa} {rest : List AV} (h : s.aJ ob = none) : bf Γ (s.set ob (au aa.cells t ++ rest)) (.dj ob 0 5 t.length cap) s (ax t):=by
  refine (bf.outer (Γ:=Γ) (AS.aj s ob _) (cL eE t)).trans (bf.le _ ?_);refine ⟨fun o cs hc=>?_,fun t e he=>he⟩;have dz : o≠ob:=(by rintro rfl; rw [h] at hc; cases hc);rw [AS.lP,eG _ _ dz,AS.aR _ dz];exact hc
theorem AQ {N : Nat} {E : Env} {Q : Exit→Env→AS→Prop} {id : Nat} {L2 : List Oper} {o1 o2 o3 o4 o5 o6 o : Oper} (hg : o.guard = none) (hd : ∀ d,o.dst = some d→d < N)
    (h : ∀ ops,AY P Γ N ops [o1,o2,o3,o4,o5,o6] (fun E1 s1=>∃ K1 : AV→AS→Prop,(∀ G a w,Rel Γ N G E1 s1 a w→cJ P Γ G K1 ((execOp a.eval o).run P w)) ∧
      ∀ r s2,K1 r s2→AY P Γ N ops L2 (fun E' s'=>Q .normal E' s') (bD E1 o.dst r) s2) E s) :
    cI P Γ N (.region id (o1 :: o2 :: o3 :: o4 :: o5 :: o6 :: o :: L2).toArray false) Q E s :=
  mz [o1,o2,o3,o4,o5,o6] L2 hg hd (h _)
def TL : AV→Nat
  | .sl _ n _ _=>n
  | .dj _ _ _ n _=>n
  | _=>0
theorem KG {α : Type} {c : α→List AV} {k : Nat} (hk : ∀ a,(c a).length = k) {l : List α} {n : Nat} (h : n≤l.length) : (au c l).take (n * k) = au c (l.take n):=by
  have e : au c l = au c (l.take n) ++ au c (l.drop n):=by
    conv=>lhs; rw [← List.take_append_drop n l]
    simp only [au,List.map_append,List.flatten_append]
  have hl : (au c (l.take n)).length = n * k:=(by rw [cL hk,List.length_take]; congr 1; omega);rw [e,← hl,List.take_left]
end Go.AM
namespace Go.Proofs.YtcjifoccjlpapaaGreatDoor
open Go Go.AM Go.Proofs Tryz
variable {Γ : Nat→List AV}
theorem jj (t : List aa) (h0 : t.length≠0) (hl : t.length≤2 ^ 30) (i : Nat) (hi : i < t.length) (n : aa) (s : AS) :
  ah prog Γ 74 [ax t,.v (.int .i64 i),.agg n.cells] s (fun r s'=>r = ax (t.set i n)∧s' = s):=by
 have fU:=fun rest=>qQ (c:=aa.cells) (k:=5) (fun _=>rfl) hi n rest;have lE : (au aa.cells t).length = t.length * 5:=Go.AM.cL (c:=aa.cells) eE t;have Tm : (au aa.cells (t.set i n)).length = t.length * 5:=(by rw [Go.AM.cL (c:=aa.cells) eE,List.length_set]);have iW:=AP t;refine ah.settle (Q:=fun r s'=>∃ ob cap rest,s.aJ ob = none∧r = .dj ob 0 5 t.length cap∧s' = s.set ob (au aa.cells (t.set i n) ++ rest)) ?_ ?_
 ·refine ab func74 rfl ntmps74 results74 (by simp) ?_;unfold ax at *
  generalize hY : au aa.cells (t.set i n) = Y at *
  generalize hX : au aa.cells t = X at *
  clear hY hX;obtain ⟨nk,nm,ny,iq,nu⟩:=n;unfold aa.cells at *
  refine az 5 (by decide) ?_;intro K hK;refine jN @aC.eq_1 ?_;intro o ho;refine hK _ _ o _ rfl ho ?_;clear hK K ho;refine nG rfl (by decide) ?_;intro ops;refine jM ?_;refine ⟨_,fun G a w hr=>dP (n:=0) (m:=t.length) (cs:=[]) (ds:=X) (e:=64) rfl underlying23 (by simp only [↓DN,Qa,Qb,Qc,Qd,Qe,Qf,Qg,Qh,reduceCtorEq,↓reduceIte,Na,Nb,Nc,Nk,Nf,Ng,Nh,Za,Zb,Zc,TT]; try rfl) T.Oa (by rw [T.kX]; decide) (by rw [T.kX]; rfl) (by rw [T.kX]; simp only [↓DN,Qa,Qb,Qc,Qd,Qe,Qf,Qg,Qh,reduceCtorEq,↓reduceIte,Na,Nb,Nc,Nk,Nf,Ng,Nh,Za,Zb,Zc,TT,iE,aN,aG,Nc,↓reduceIte]) h0 (by rw [T.L4]; omega) (by omega) iW (by rw [T.kX]; exact .inl ⟨rfl,rfl,.inr (.inr rfl)⟩) hr.eval hr.st,?_⟩;rw [T.kX];rintro r s1 ⟨ob,cap,rest,rfl,dA,jo,mG,eU,rfl⟩;have eU : s.aJ ob = none:=by
   rcases eU with h | ⟨_,h⟩
   ·exact h
   ·simp [aN,aG] at h
  refine jM ?_;rw [Nat.zero_add] at *
  have bK : (0 : Int)≤((i : Nat) : Int):=(by omega);have gA:=fU rest;simp only [bm] at gA;have FK : (X ++ rest).length = X.length + rest.length:=List.length_append;generalize X ++ rest = R at *
  refine wS fun K hK=>?_;simp only [↓DN,Qa,Qb,Qc,Qd,Qe,Qf,Qg,Qh,reduceCtorEq,↓reduceIte,Na,Nb,Nc,Nk,Nf,Ng,Nh,Za,Zb,Zc,TT,bK,hi,af];refine ⟨by omega,hK _ _ ?_⟩;clear hK K;refine jA ?_;refine jI ?_;refine ⟨_,_,AV.aL.refl _,AS.le.refl _,ob,cap,rest,eU,rfl,?_⟩;rw [← gA];rfl
 ·rintro r s1 ⟨ob,cap,rest,eU,rfl,rfl⟩;refine ⟨s,ax (t.set i n),?_,rfl,rfl⟩;have:=bf.tree (Γ:=Γ) (t:=t.set i n) (cap:=cap) (rest:=rest) eU;rwa [List.length_set] at this
theorem jk (name : List UInt8) (key : Nat) (hn : name.length≤2 ^ 45) (s : AS) : ah prog Γ 76 [.v (.string ⟨name.toArray⟩),.v (.int .u64 key)] s (fun r s'=>r = .agg (bq name key).cells∧s' = s):=by
 refine ab func76 rfl ntmps76 results76 (by simp) ?_;refine jQ fun K hK=>?_;intro o ho;refine hK _ _ ?_;clear hK K;refine jA ?_;refine bo ?_;refine jX (o:=o) (off:=0) rfl (AS.aj _ _ _) (by rw [T.kX]; decide) (by simp only [↓DN,Qa,Qb,Qc,Qd,Qe,Qf,Qg,Qh,reduceCtorEq,↓reduceIte,Na,Nb,Nc,Nk,Nf,Ng,Nh,Za,Zb,Zc,TT]; rfl) ?_;exact ⟨_,s,AV.fR (.cons (AV.aL.refl _) (.cons AV.db (.cons (AV.aL.refl _) (.cons AV.aP (.cons AV.aP .nil))))),AS.bg (AS.le.refl s) ho _,rfl,rfl⟩
theorem mY (t : List aa) (ht : cV t) (h1 : aA t) (leaf : Nat) (eX : leaf < aY t) (s : AS) :
  ah prog Γ 75 [ax t,.v (.int .i64 leaf)] s (fun r s'=>r = ax (eK t leaf)∧s' = s):=by
 have qF:=fun s=>dX (Γ:=Γ) t ht.1 s;have hlen:=h1.len;have Gp:=fL t;have ND:=fun s=>fT (Γ:=Γ) leaf (aY t) hlen.2 eX s;have Nq:=fun x hx=>iw hlen.2 eX x hx;have xd:=fk hlen.2 eX;have hb : eK t leaf = iL (aD leaf (aY t)) t:=rfl;rw [hb];refine ab func75 rfl ntmps75 results75 (by simp) ?_;have As : ∀ (l : List Nat) (i : Nat) (hi : i < t.length) (s : AS),ah prog Γ 74 [ax (iL l t),.v (.int .i64 i),.agg aa.bp.cells] s (fun r s'=>r = ax ((iL l t).set i aa.bp)∧s' = s) :=
  fun l i hi s=>jj (iL l t) (by rw [fb]; omega) (by rw [fb]; omega) i (by rw [fb]; exact hi) aa.bp s
 have Ua : aa.bp.cells = [.v (.int .i64 0),.sl 1 0 [] .any,.v (.int .u64 0),.sl 1 0 [] .any,.sl 1 0 [] .any]:=rfl;rw [Ua] at As;replace As:=fun (l : List Nat) (i : Nat) (hi : i < t.length) (s : AS)=>ah.jq (args:=[ax (iL l t),.v (.int .i64 (i : Int)),.agg [.v (.int .i64 0),.v (.slice none 0 0),.v (.int .u64 0),.v (.slice none 0 0),.v (.slice none 0 0)]]) (.cons (AV.aL.refl _) (.cons (AV.aL.refl _) (.cons (AV.fR (.cons (AV.aL.refl _) (.cons AV.aP (.cons (AV.aL.refl _) (.cons AV.aP (.cons AV.aP .nil)))))) .nil))) (As l i hi s);have hT0 : ax t = ax (iL [] t):=rfl;refine jA ?_;refine jQ fun K hK=>?_;refine ae (qF _) ?_;rintro r s1 ⟨rfl,rfl⟩;refine jM ?_;refine ae (ND _) ?_;rintro r s2 ⟨rfl,rfl⟩;unfold aC;have TJ:=bZ (aD leaf (aY t));have Gq : ∀ (i : Nat) (hi : i < (aD leaf (aY t)).length),List.take 1 (List.drop i ((bt (aD leaf (aY t))).map aE)) = [.v (.int .i64 (((aD leaf (aY t))[i] : Nat) : Int))]:=by
  intro i hi;rw [dC (by rw [bZ]; exact hi)];simp [bt]
 have ye:=fun (i : Nat) (hi : i < (aD leaf (aY t)).length) (M : List aa)=>iB (fun (t : List aa) u=>t.set u aa.bp) M hi;have nI : (aD leaf (aY t)).take (aD leaf (aY t)).length = aD leaf (aY t):=List.take_length;generalize bt (aD leaf (aY t)) = PI at *
 generalize aD leaf (aY t) = P at *
 rw [TJ];refine jR hK ?_;clear hK K;refine wK fun K hK=>?_;refine jA ?_;refine ag ?_;refine aH (fun E s2'=>∃ (i : Nat),i≤P.length∧E 6 = .v (.int .i64 i)∧E 5 = .sl 1 P.length (PI.map aE) .any∧E 0 = ax (iL (P.take i) t)∧s2' = s2)
  (fun E _=>match E 6 with | .v (.int _ i)=>P.length - i.toNat | _=>0) ?_ ?_
 ·exact ⟨0,Nat.zero_le _,rfl,rfl,by simp only [aG,dE,List.getD_cons_zero,Nc,↓reduceIte]; exact hT0,rfl⟩
 ·rintro E1 s5 ⟨i,hi,g6,g5,g0,rfl⟩ -
  refine wK fun K2 aX=>?_;by_cases aO : i < P.length
  ·refine jB (Ai @g6 (Ai @g5 (Ai @af (decide_eq_true aO)))) ?_;refine jE ?_;refine ad ?_;refine aX _ _ ?_;clear aX K2;refine wK fun K3 bB=>?_;refine ag ?_;have bK : (0 : Int)≤((i : Nat) : Int):=(by omega);have bN:=Gq i aO;have hpi:=Nq _ (List.getElem_mem aO);have dc : iL (P.take (i + 1)) t = (iL (P.take i) t).set P[i] aa.bp:=ye i aO t;generalize P[i] = u at *
   refine jU (Ai @g6 (Ai @g5 (Ai @g0 (Ai @bK (Ai @af (Ai @aO @bN)))))) fun K hK=>?_;refine ae (As _ u (by omega) _) ?_;rintro r s6 ⟨rfl,rfl⟩;rw [← dc];refine jR hK ?_;clear hK K;simp only [aq,av,if_true,if_false];refine bB _ _ ?_;clear bB K3;refine jD (Ai @g6 (aQ i (by omega))) ?_;refine ⟨⟨i + 1,by omega,rfl,g5,rfl,rfl⟩,?_⟩;simp only [g6,aG,↓reduceIte];omega
  ·refine jB (Ai @g6 (Ai @g5 (Ai @af (decide_eq_false aO)))) ?_;refine jF ?_;refine aB ?_;simp only [av,aq,if_true];refine hK _ _ ?_;clear hK aX K2 K;obtain rfl : i = P.length:=(by omega);rw [nI] at g0;refine jB @g0 ?_;exact jJ
theorem wR (t : List aa) (ht : cV t) (leaf : Nat) (key : Nat) (h1 : aA t) (h2 : bx t (leaf : Int)) (h3 : wO key) (s : AS) :
  ah prog Γ 32 [ax t,.v (.int .i64 leaf),.v (.int .u64 key)] s (fun r s'=>r = .dZ [ax (tJ t leaf key),.v (.int .i64 0)]∧s' = s):=by
 have hr:=fun s=>cK (Γ:=Γ) t ht s;have hm:=fun s=>cn (Γ:=Γ) t ht.1 (leaf : Int) s;have hk:=fun s=>fp (Γ:=Γ) key s;have hlen:=h1.len;have Gp:=fL t;have eX:=((bW rfl _).1 h2).1;have Nu:=fun s=>mY (Γ:=Γ) t ht h1 leaf eX s;have bN:=cT (t:=t) (i:=2 * leaf) (by omega);have Of:=(gM (h1.nd (2 * leaf))).1;have iS:=fun s=>jk (Γ:=Γ) (nd t (2 * leaf)).name key (by omega) s;have wQ : (eK t leaf).length = t.length:=(by unfold eK; rw [fb]);have As:=fun s=>jj (Γ:=Γ) (eK t leaf) (by rw [wQ]; omega) (by rw [wQ]; omega) (2 * leaf) (by rw [wQ]; omega) (bq (nd t (2 * leaf)).name key) s;have Is : (eK t leaf).set (2 * leaf) (bq (nd t (2 * leaf)).name key) = tJ t leaf key:=rfl;rw [Is] at As;rw [decide_eq_true h1] at hr;rw [decide_eq_true ((fq h1.1 _).2 h2)] at hm;rw [decide_eq_true h3.1,decide_eq_true h3.2] at hk;have bK : (0 : Int)≤((2 * leaf : Nat) : Int):=(by omega);have Iq:=bw leaf (by omega);have ik : 2 * leaf < t.length:=(by omega);generalize ax (tJ t leaf key) = U at *
 generalize ax (eK t leaf) = B at *
 generalize hLF : (bq (nd t (2 * leaf)).name key).cells = LF at *
 clear hLF Is wQ;unfold ax at *
 generalize au aa.cells t = X at *
 generalize nd t (2 * leaf) = N at *
 obtain ⟨nk,nm,ny,iq,nu⟩:=N;unfold aa.cells at bN;simp only at iS Of;refine ab func32 rfl ntmps32 results32 (by simp) ?_;unfold ak at *
 refine jA ?_;refine wK fun K hK=>?_;refine jK (hr _) ?_;rintro s1 rfl;refine jF ?_;refine ad ?_;refine hK _ _ ?_;clear hK K;refine wK fun K hK=>?_;refine jK (hm _) ?_;rintro s2 rfl;refine jF ?_;refine ad ?_;refine hK _ _ ?_;clear hK K;refine wK fun K hK=>?_;refine jK (hk _) ?_;rintro s3 rfl;refine jF ?_;refine ad ?_;refine hK _ _ ?_;clear hK K;refine aZ T.mixed [2,13,14] (by kernel_rfl) ?_;intro K hK;refine jN (Ai @Iq (Ai @bK (Ai @ik (Ai @af @bN)))) ?_;refine ae (Nu _) ?_;rintro r s4 ⟨rfl,rfl⟩;refine jN (Ai @Iq (Ai @bK (Ai @ik (Ai @af @bN)))) ?_;refine ae (iS _) ?_;rintro r s5 ⟨rfl,rfl⟩;refine jM ?_;refine ae (As _) ?_;rintro r s6 ⟨rfl,rfl⟩;refine jR hK ?_;clear hK K;exact jJ
theorem uQ (t : List aa) (ht : cV t) (leaf : Int) (key : Nat) (s : AS) :
  ah prog Γ 32 [ax t,.v (.int .i64 leaf),.v (.int .u64 key)] s (fun r s'=>r = .dZ [fm (fV t leaf key).1,.v (.int .i64 (fV t leaf key).2)]∧s' = s):=by
 have hr:=fun s=>cK (Γ:=Γ) t ht s;have hm:=fun s=>cn (Γ:=Γ) t ht.1 leaf s;have hk:=fun s=>fp (Γ:=Γ) key s;by_cases h1 : aA t
 ·have GI:=fq h1.1 leaf;by_cases h2 : bx t leaf
  ·by_cases h3 : wO key
   ·obtain ⟨l,rfl⟩:=Int.eq_ofNat_of_zero_le h2.1;have bR : fV t (l : Int) key = (tJ t l key,0):=by
     unfold fV;rw [if_neg (fun h=>h h1),if_neg (fun h=>h h2),if_neg (fun h=>h h3),Int.toNat_natCast]
    rw [bR,gK]
    ·exact wR t ht l key h1 h2 h3 s
    ·show (tJ t l key).length≠0;rw [show (tJ t l key).length = t.length from oV _ _ _];obtain ⟨q1,q2⟩:=h1.len;have:=q2.le;omega
   ·have bR : fV t leaf key = ([],2):=by
     unfold fV;rw [if_neg (fun h=>h h1),if_neg (fun h=>h h2),if_pos h3]
    rw [bR];rw [decide_eq_true h1] at hr;rw [decide_eq_true (GI.2 h2)] at hm;have U6 : (decide (2≤(key : Int)) && decide ((key : Int)≤2305843009213693949)) = false:=by
     rw [Bool.and_eq_false_iff,decide_eq_false_iff_not,decide_eq_false_iff_not];unfold wO at h3;omega
    rw [U6] at hk;refine ab func32 rfl ntmps32 results32 (by simp) ?_;unfold ax at *
    generalize au aa.cells t = X at *
    refine jA ?_;refine wK fun K hK=>?_;refine jK (hr _) ?_;rintro s1 rfl;refine jF ?_;refine ad ?_;refine hK _ _ ?_;clear hK K;refine wK fun K hK=>?_;refine jK (hm _) ?_;rintro s2 rfl;refine jF ?_;refine ad ?_;refine hK _ _ ?_;clear hK K;refine wK fun K hK=>?_;refine jK (hk _) ?_;rintro s3 rfl;refine jE ?_;refine jA ?_;exact jJ
  ·have bR : fV t leaf key = ([],43):=by
    unfold fV;rw [if_neg (fun h=>h h1),if_pos h2]
   rw [bR];rw [decide_eq_true h1] at hr;rw [decide_eq_false (fun q=>h2 (GI.1 q))] at hm;refine ab func32 rfl ntmps32 results32 (by simp) ?_;unfold ax at *
   generalize au aa.cells t = X at *
   refine jA ?_;refine wK fun K hK=>?_;refine jK (hr _) ?_;rintro s1 rfl;refine jF ?_;refine ad ?_;refine hK _ _ ?_;clear hK K;refine wK fun K hK=>?_;refine jK (hm _) ?_;rintro s2 rfl;refine jE ?_;refine jA ?_;exact jJ
 ·have bR : fV t leaf key = ([],40):=if_pos h1;rw [bR];rw [decide_eq_false h1] at hr;refine ab func32 rfl ntmps32 results32 (by simp) ?_;unfold ax at *
  generalize au aa.cells t = X at *
  refine jA ?_;refine wK fun K hK=>?_;refine jK (hr _) ?_;rintro s1 rfl;refine jE ?_;refine jA ?_;exact jJ
theorem wT (t : List aa) (ht : cV t) (leaf : Nat) (h1 : aA t) (h2 : bx t (leaf : Int)) (h3 : dF (bx t) 0 (aY t)≠1) (s : AS) :
  ah prog Γ 33 [ax t,.v (.int .i64 leaf)] s (fun r s'=>∃ X s2,r = .dZ [X,.v (.int .i64 0)]∧s' = s2∧bf Γ s2 X s (ax (KC t leaf))):=by
 have hr:=fun s=>cK (Γ:=Γ) t ht s;have hm:=fun s=>cn (Γ:=Γ) t ht.1 (leaf : Int) s;have It:=fun s=>oT (Γ:=Γ) t ht s;have hlen:=h1.len;have Gp:=fL t;have eX:=((bW rfl _).1 h2).1;have Nu:=fun s=>mY (Γ:=Γ) t ht h1 leaf eX s;have wQ : (eK t leaf).length = t.length:=(by unfold eK; rw [fb]);have As:=fun s=>jj (Γ:=Γ) (eK t leaf) (by rw [wQ]; omega) (by rw [wQ]; omega) (2 * leaf) (by rw [wQ]; omega) aa.bp s;have Is : (eK t leaf).set (2 * leaf) aa.bp = rj t leaf aa.bp:=rfl;rw [Is] at As;have Ua : aa.bp.cells = [.v (.int .i64 0),.sl 1 0 [] .any,.v (.int .u64 0),.sl 1 0 [] .any,.sl 1 0 [] .any]:=rfl;rw [Ua] at As;replace As:=fun (s : AS)=>ah.jq (args:=[ax (eK t leaf),.v (.int .i64 ((2 * leaf : Nat) : Int)),.agg [.v (.int .i64 0),.v (.slice none 0 0),.v (.int .u64 0),.v (.slice none 0 0),.v (.slice none 0 0)]]) (.cons (AV.aL.refl _) (.cons (AV.aL.refl _) (.cons (AV.fR (.cons (AV.aL.refl _) (.cons AV.aP (.cons (AV.aL.refl _) (.cons AV.aP (.cons AV.aP .nil)))))) .nil))) (As s);rw [decide_eq_true h1] at hr;rw [decide_eq_true ((fq h1.1 _).2 h2)] at hm;have hmt : oS t = oR t (aY t):=if_pos h1;have G8:=wP t (aY t);rw [hmt] at It;unfold MY at It;generalize au ia.cells (oR t (aY t)) = ML at *
 generalize (oR t (aY t)).length = mn at *
 have fX:=oW h1.DP.1 eX fH (.inl rfl);have Pl : KC t leaf = la 6 (rj t leaf aa.bp):=rfl;rw [Pl];have Jv:=oV t leaf aa.bp;generalize rj t leaf aa.bp = B at *
 have Iq:=bw leaf (by omega);refine ab func33 rfl ntmps33 results33 (by simp) ?_;refine jA ?_;refine wK fun K hK=>?_;refine jK (hr _) ?_;rintro s1 rfl;refine jF ?_;refine ad ?_;refine hK _ _ ?_;clear hK K;refine wK fun K hK=>?_;refine jK (hm _) ?_;rintro s2 rfl;refine jF ?_;refine ad ?_;refine hK _ _ ?_;clear hK K;refine wK fun K hK=>?_;refine jQ fun K hK=>?_;refine ae (It _) ?_;rintro r s3 ⟨rfl,rfl⟩;refine jV (e8 (show (mn : Int)≠1 by omega)) hK ?_;clear hK K;refine jF ?_;refine ad ?_;refine hK _ _ ?_;clear hK K;refine jS @Iq fun K hK=>?_;refine ae (Nu _) ?_;rintro r s4 ⟨rfl,rfl⟩;refine jN @Iq ?_;refine ae (As _) ?_;rintro r s5 ⟨rfl,rfl⟩;refine jR hK ?_;clear hK K;obtain ⟨m0,JF,rV⟩:=hlen.2.pow;rw [rV] at fX;refine wK fun K hK=>?_;refine ag ?_;refine aH (fun E s2=>∃ (m f : Nat) (u : List aa) (X : AV),m≤f∧m≤5∧E 0 = X∧TL X = u.length∧bf Γ s2 X s5 (ax u)∧nT (2 ^ m) u∧la 6 B = la f u)
  (fun E _=>TL (E 0)) ?_ ?_
 ·exact ⟨m0,6,B,ax B,by omega,JF,rfl,rfl,bf.refl _,fX,rfl⟩
 ·rintro E1 s2 ⟨m,f,u,X,OM,hm5,g0,hX,hS,hg,hB⟩ -
  have RN : TL (E1 0) = u.length:=(by rw [g0]; exact hX);rw [RN];refine zy (d:=0) (by decide +kernel) g0 hS ?_;obtain ⟨E2,Jt⟩ : ∃ E2,E2 = aG E1 0 (ax u):=⟨_,rfl⟩;rw [← Jt];have Ik : E2 0 = ax u:=(by rw [Jt]; exact bj _ _ _);clear g0 hS hX RN Jt s2;have Od:=hg.2.1;have hp5:=kt hm5;have qF:=hg.aY;have lN:=fun s=>dX (Γ:=Γ) u (by omega) s;rw [qF] at lN;refine wK fun K2 aX=>?_;have gC : ∀ (E : Env),E 0 = ax u→la 6 B = u→K E s5:=by
   intro E g0 hBu;refine hK _ _ ?_;clear hK aX K2 K;rw [hBu];refine jB @g0 ?_;refine jI ?_;exact jW ⟨_,_,rfl,rfl,bf.refl _⟩
  clear hK;cases m with
  | zero =>
   have bO : la f u = u:=by
    cases f with
    | zero=>rfl
    | succ f=>simp only [la,qF]; rw [if_neg (fun q=>by have:=q.1; simp at this)]
   refine jS @Ik fun K hK=>?_;refine ae (lN _) ?_;rintro r s6 ⟨rfl,rfl⟩;refine jV (decide_eq_false (show ¬ (1 : Int) < ((2 ^ 0 : Nat) : Int) by decide)) hK ?_;clear hK K;refine jF ?_;refine aB ?_;simp only [av,aq,if_true];refine gC _ Ik (by rw [hB,bO])
  | succ m =>
   have yh : 2 ^ (m + 1) = 2 * 2 ^ m:=(by rw [Nat.pow_succ]; omega);have Nq:=Nat.two_pow_pos m;have iH:=fun s=>rb (Γ:=Γ) u (by omega) (2 ^ (m + 1) / 2) (2 ^ (m + 1) - 2 ^ (m + 1) / 2) (by omega) s;rw [show 2 ^ (m + 1) / 2 + (2 ^ (m + 1) - 2 ^ (m + 1) / 2) = 2 ^ (m + 1) by omega,pI (fq (t:=u) (by omega))] at iH;have RM:=fun h0=>rk (m:=m) (t:=u) hg h0;have hq : 2 ^ (m + 1) / 2 = 2 ^ m:=(by omega);have Qm:=Gs (2 ^ (m + 1)) (by omega);have UD : ed .i64 ((2 ^ (m + 1) : Nat) : Int) 1 = ((2 ^ (m + 1) : Nat) : Int) - 1:=b6 (by omega);obtain ⟨f,rfl⟩ : ∃ f',f = f' + 1:=⟨f - 1,by omega⟩;have TC : la (f + 1) u = if 1 < 2 ^ (m + 1)∧dF (bx u) (2 ^ (m + 1) / 2) (2 ^ (m + 1) - 2 ^ (m + 1) / 2) = 0 then la f (sm u) else u:=by
    simp only [la,qF]
   rw [TC] at hB;have IU : decide ((1 : Int) < ((2 ^ (m + 1) : Nat) : Int)) = true:=decide_eq_true (by omega);by_cases h0 : dF (bx u) (2 ^ (m + 1) / 2) (2 ^ (m + 1) - 2 ^ (m + 1) / 2) = 0
   ·rw [if_pos ⟨by omega,h0⟩] at hB;replace RM:=RM h0;refine jS @Ik fun K hK=>?_;refine ae (lN _) ?_;rintro r s6 ⟨rfl,rfl⟩;refine jN (Ai @Ik @IU) ?_;refine ae (lN _) ?_;rintro r s6 ⟨rfl,rfl⟩;refine jN (Ai @Ik (Ai @IU @Qm)) ?_;refine ae (lN _) ?_;rintro r s6 ⟨rfl,rfl⟩;refine jN (Ai @Ik (Ai @IU (Ai @Qm @UD))) ?_;refine ae (iH _) ?_;rintro r s6 ⟨rfl,rfl⟩;refine jV (Dq h0) hK ?_;clear hK K;refine jE ?_;refine ad ?_;refine aX _ _ ?_;clear aX K2;refine ag ?_;have Iu : sm u = u.take (2 ^ (m + 1) - 1):=(by unfold sm; rw [qF,hq,yh]);have fM : (u.take (2 ^ (m + 1) - 1)).length = 2 ^ (m + 1) - 1:=(by rw [List.length_take]; omega);have gQ:=KG (c:=aa.cells) (k:=5) (fun _=>rfl) (l:=u) (n:=2 ^ (m + 1) - 1) (by omega);have iW:=AP (u.take (2 ^ (m + 1) - 1));have Ql : ((2 ^ (m + 1) : Nat) : Int) - 1 = ((2 ^ (m + 1) - 1 : Nat) : Int):=(by omega);have bK : (0 : Int)≤((2 ^ (m + 1) - 1 : Nat) : Int):=(by omega);have hle : ((2 ^ (m + 1) - 1 : Nat) : Int)≤(u.length : Int):=(by omega);have xhY : 2 ^ (m + 1) - 1≤63:=(by omega);have LV : 2 ^ (m + 1) - 1≠0:=(by omega);have Ny : (sm u).length < u.length:=(by rw [Iu,fM]; omega);generalize hP : 2 ^ (m + 1) - 1 = p at *
    have TM : E2 0 = .sl 5 u.length (au aa.cells u) .any:=Ik;have xc5 : ∀ s,ah prog Γ 77 [.sl 5 u.length (au aa.cells u) .any] s (fun r s'=>r = .v (.int .i64 ((2 ^ (m + 1) : Nat) : Int))∧s' = s):=lN;generalize hY : au aa.cells (u.take p) = Y at *
    generalize hXX : au aa.cells u = XX at *
    refine AQ rfl (by simp) ?_;intro ops;refine jN @TM ?_;refine ae (xc5 _) ?_;rintro r s6 ⟨rfl,rfl⟩;refine jN (Ai @TM (Ai @UD (Ai @Ql (Ai @bK (Ai @hle (Ai @Nat.sub_zero @gQ)))))) ?_;refine ⟨_,fun G a w hr=>dP (n:=0) (m:=p) (cs:=[]) (ds:=Y) (e:=64) rfl underlying23 (by simp only [↓DN,Qa,Qb,Qc,Qd,Qe,Qf,Qg,Qh,reduceCtorEq,↓reduceIte,Na,Nb,Nc,Nk,Nf,Ng,Nh,Za,Zb,Zc,TT]; try rfl) T.Oa (by rw [T.kX]; decide) (by rw [T.kX]; rfl) (by rw [T.kX]; simp only [↓DN,Qa,Qb,Qc,Qd,Qe,Qf,Qg,Qh,reduceCtorEq,↓reduceIte,Na,Nb,Nc,Nk,Nf,Ng,Nh,Za,Zb,Zc,TT,iE,aN,aG,Nc,↓reduceIte]) LV (by rw [T.L4]; omega) (by omega) iW (by rw [T.kX]; exact .inl ⟨rfl,rfl,.inr (.inr rfl)⟩) hr.eval hr.st,?_⟩;rw [T.kX];rintro r s1 ⟨ob,cap,rest,rfl,dA,jo,mG,eU,rfl⟩;refine jM ?_;rw [Nat.zero_add] at *
    have eU : s6.aJ ob = none:=by
     rcases eU with h | ⟨_,h⟩
     ·exact h
     ·simp [aN,aG] at h
    have ff:=bf.tree (Γ:=Γ) (t:=u.take p) (cap:=cap) (rest:=rest) eU;rw [fM,hY,← Iu] at ff;refine ⟨⟨m,f,sm u,_,by omega,by omega,rfl,by rw [Iu,fM]; rfl,ff,RM,hB⟩,?_⟩;show p < u.length;rw [Iu,fM] at Ny;exact Ny
   ·rw [if_neg (fun q=>h0 q.2)] at hB;refine jS @Ik fun K hK=>?_;refine ae (lN _) ?_;rintro r s6 ⟨rfl,rfl⟩;refine jN (Ai @Ik @IU) ?_;refine ae (lN _) ?_;rintro r s6 ⟨rfl,rfl⟩;refine jN (Ai @Ik (Ai @IU @Qm)) ?_;refine ae (lN _) ?_;rintro r s6 ⟨rfl,rfl⟩;refine jN (Ai @Ik (Ai @IU (Ai @Qm @UD))) ?_;refine ae (iH _) ?_;rintro r s6 ⟨rfl,rfl⟩;refine jV (uI h0) hK ?_;clear hK K;refine jF ?_;refine aB ?_;simp only [av,aq,if_true];refine gC _ Ik hB
theorem uR (t : List aa) (ht : cV t) (leaf : Int) (s : AS) :
  ah prog Γ 33 [ax t,.v (.int .i64 leaf)] s (fun r s'=>r = .dZ [fm (fW t leaf).1,.v (.int .i64 (fW t leaf).2)]∧s' = s):=by
 have hr:=fun s=>cK (Γ:=Γ) t ht s;have hm:=fun s=>cn (Γ:=Γ) t ht.1 leaf s;by_cases h1 : aA t
 ·have GI:=fq h1.1 leaf;by_cases h2 : bx t leaf
  ·by_cases h3 : dF (bx t) 0 (aY t) = 1
   ·have It:=fun s=>oT (Γ:=Γ) t ht s;have bR : fW t leaf = ([],40):=by
     unfold fW;rw [if_neg (fun h=>h h1),if_neg (fun h=>h h2),if_pos h3]
    rw [bR];rw [decide_eq_true h1] at hr;rw [decide_eq_true (GI.2 h2)] at hm;have hmt : oS t = oR t (aY t):=if_pos h1;have G8:=wP t (aY t);rw [hmt] at It;unfold MY at It;rw [G8,h3] at It;refine ab func33 rfl ntmps33 results33 (by simp) ?_;unfold ax at *
    generalize au ia.cells (oR t (aY t)) = ML at *
    generalize au aa.cells t = X at *
    refine jA ?_;refine wK fun K hK=>?_;refine jK (hr _) ?_;rintro s1 rfl;refine jF ?_;refine ad ?_;refine hK _ _ ?_;clear hK K;refine wK fun K hK=>?_;refine jK (hm _) ?_;rintro s2 rfl;refine jF ?_;refine ad ?_;refine hK _ _ ?_;clear hK K;refine wK fun K hK=>?_;refine jQ fun K hK=>?_;refine ae (It _) ?_;rintro r s3 ⟨rfl,rfl⟩;refine jV (show (((1 : Nat) : Int) == 1) = true from rfl) hK ?_;clear hK K;refine jE ?_;refine jA ?_;exact jJ
   ·obtain ⟨l,rfl⟩:=Int.eq_ofNat_of_zero_le h2.1;have bR : fW t (l : Int) = (KC t l,0):=by
     unfold fW;rw [if_neg (fun h=>h h1),if_neg (fun h=>h h2),if_neg h3,Int.toNat_natCast]
    rw [bR,gK]
    ·refine ah.settle (wT t ht l h1 h2 h3 s) ?_;rintro r s1 ⟨X,s2,rfl,rfl,hS⟩;exact ⟨s,_,bf.P0 _ hS,rfl,rfl⟩
    ·show (KC t l).length≠0;have hR:=rR h1 ((bW rfl _).1 h2).1;obtain ⟨q1,q2⟩:=hR.len;have:=q2.le;omega
  ·have bR : fW t leaf = ([],43):=by
    unfold fW;rw [if_neg (fun h=>h h1),if_pos h2]
   rw [bR];rw [decide_eq_true h1] at hr;rw [decide_eq_false (fun q=>h2 (GI.1 q))] at hm;refine ab func33 rfl ntmps33 results33 (by simp) ?_;unfold ax at *
   generalize au aa.cells t = X at *
   refine jA ?_;refine wK fun K hK=>?_;refine jK (hr _) ?_;rintro s1 rfl;refine jF ?_;refine ad ?_;refine hK _ _ ?_;clear hK K;refine wK fun K hK=>?_;refine jK (hm _) ?_;rintro s2 rfl;refine jE ?_;refine jA ?_;exact jJ
 ·have bR : fW t leaf = ([],40):=if_pos h1;rw [bR];rw [decide_eq_false h1] at hr;refine ab func33 rfl ntmps33 results33 (by simp) ?_;unfold ax at *
  generalize au aa.cells t = X at *
  refine jA ?_;refine wK fun K hK=>?_;refine jK (hr _) ?_;rintro s1 rfl;refine jE ?_;refine jA ?_;exact jJ
end Go.Proofs.YtcjifoccjlpapaaGreatDoor
namespace Go.AM
open Go Go.RowKit
def rl (u : List Int) (v k : Nat) : List Int:=((List.range k).filter fun j=>decide (j = v∨(j : Int) ∈ u)).map fun (j : Nat)=>(j : Int)
theorem AR (u : List Int) (v k : Nat) : rl u v (k + 1) = rl u v k ++ if k = v∨(k : Int) ∈ u then [(k : Int)] else []:=by
  unfold rl;rw [List.range_succ,List.filter_append,List.map_append];congr 1;by_cases h : k = v∨(k : Int) ∈ u
  · rw [if_pos h]; simp [h]
  · rw [if_neg h]; simp [h]
theorem CW (u : List Int) (v : Nat) : ∀ k,(rl u v k).length≤k
  | 0=>by simp [rl]
  | k + 1=>by
    have:=CW u v k;rw [AR,List.length_append];split <;> simp <;> omega
theorem KH {u : List Int} {v : Nat} (h : fG u) (hv : (v : Int) ∉ u) (nh : v < 32) : rl u v 32 = sj u (v : Int):=PY h hv nh
theorem NG {t : List aa} (h : aA t) {i : Nat} : ((aM t : Nat) : Int) ∉ (nd t i).fF:=by
  intro hm;obtain ⟨⟨hL,hlen,h1,h2⟩,h3⟩:=h.DP;by_cases e : i < 2 * aY t - 1
  · have:=((h1 i e).2.2 _ hm).2.2.2.2;rw [Int.toNat_natCast] at this;exact wN hL hlen this
  · rw [q9 (by omega)] at hm;cases hm
theorem AU : ∀ k : Nat,te.aL (List.replicate k zN).flatten (au aa.cells (List.replicate k aa.bp))
  | 0=>.refl _
  | k + 1=>by
    have e1 : (List.replicate (k + 1) zN).flatten = zN ++ (List.replicate k zN).flatten:=(by rw [List.replicate_succ,List.flatten_cons]);have e2 : au aa.cells (List.replicate (k + 1) aa.bp) = aa.bp.cells ++ au aa.cells (List.replicate k aa.bp):=(by rw [List.replicate_succ]; rfl);rw [e1,e2];exact te.aL.append (.cons (AV.aL.refl _) (.cons AV.aP (.cons (AV.aL.refl _) (.cons AV.aP (.cons AV.aP .nil))))) (AU k)
theorem bf.tells {Γ : Nat→List AV} {s s' : AS} (x : AV) (h : AS.tells Γ s s') : bf Γ s x s' x:=fun G w _ hs hv=>⟨G,.refl G,h G w hs,hv⟩
theorem bf.more {Γ : Nat→List AV} {s : AS} {ob Rw cap cap' m k : Nat} {A rest' : List AV} {t : List aa} (h : s.aJ ob = none) (h' : (s.set ob A).aJ Rw = none∨∃ c0,AV.dj ob 0 5 m cap = .dj Rw 0 5 m c0) :
    bf Γ ((s.set ob A).set Rw (au aa.cells t ++ ig (k * 5) zN ++ rest')) (.dj Rw 0 5 (t.length + k) cap') s (ax (t ++ List.replicate k aa.bp)):=by
  have e : au aa.cells (t ++ List.replicate k aa.bp) = au aa.cells t ++ au aa.cells (List.replicate k aa.bp):=(by simp only [au,List.map_append,List.flatten_append]);have hl : (t ++ List.replicate k aa.bp).length = t.length + k:=(by simp);have hw : te.aL (au aa.cells t ++ ig (k * 5) zN ++ rest') (au aa.cells (t ++ List.replicate k aa.bp) ++ rest'):=by
    rw [e,D6];exact te.aL.append (te.aL.append (.refl _) (AU k)) (.refl _)
  refine (bf.tells _ (AS.rI hw)).trans ?_;have h2:=bf.outer (Γ:=Γ) (sz:=5) (n:=t.length + k) (cap:=cap') (AS.aj (s.set ob A) Rw (au aa.cells (t ++ List.replicate k aa.bp) ++ rest')) (by rw [cL eE,hl]);have h3 : ax (t ++ List.replicate k aa.bp) = .sl 5 (t.length + k) (au aa.cells (t ++ List.replicate k aa.bp)) .any:=(by unfold ax; rw [hl]);rw [h3];refine h2.trans (bf.le _ ⟨fun o cs hc=>?_,fun t e he=>he⟩);have dz : o≠ob:=(by rintro rfl; rw [h] at hc; cases hc);have ZG : o≠Rw:=by
    rintro rfl;rcases h' with h' | ⟨c0,h'⟩
    · rw [AS.aR _ dz,hc] at h'; cases h'
    · injection h' with q; exact dz q.symm
  rw [AS.lP,eG _ _ ZG,AS.aR _ ZG,AS.aR _ dz];exact hc
end Go.AM
namespace Go.Proofs.YtcjifoccjlpapaaGreatDoor
open Go Go.AM Go.Proofs Tryz
variable {Γ : Nat→List AV}
theorem wU (t : List aa) (ht : cV t) (name : List UInt8) (key : Nat) (hn : name.length≤2 ^ 45) (h1 : aA t) (h2 : (bq name key).right) (h3 : ¬ 0≤fa t name 0) (s : AS) :
  ah prog Γ 34 [ax t,.v (.string ⟨name.toArray⟩),.v (.int .u64 key)] s (fun r s'=>r = .dZ [fm (eo t name key).1,.v (.int .i64 (eo t name key).2.1),.v (.int .i64 (eo t name key).2.2)]∧s.le s'):=by
 have bR : eo t name key = if aM t = 32 then ([],0,21) else (iQ t (aM t) (bq name key),aM t,0):=by
  unfold eo;rw [if_neg (fun h=>h h1),if_neg (fun h=>h h2),if_neg h3]
 rw [bR];have hc:=fun s=>jk (Γ:=Γ) name key hn s;have hr:=fun s=>cK (Γ:=Γ) t ht s;have AJ:=fun s=>ke (Γ:=Γ) (bq name key) (by simp [bq]) s;have CU:=fun s=>mQ (Γ:=Γ) t ht.1 name s;have U4:=fun i s=>cn (Γ:=Γ) t ht.1 i s;have qF:=fun s=>dX (Γ:=Γ) t ht.1 s;obtain ⟨f1,f2,f3⟩:=mP t;have hlen:=h1.len;have Gp:=fL t;have FV : mL t name < 0:=by
  rcases nM (t:=t) name with ⟨j,a1,a2,a3,a4,_⟩ | ⟨a,_⟩
  ·exfalso;have hj : j < aY t:=(by have:=h1.iS; omega);exact Go.AM.pJ h3 hlen.2 hlen.1 hj ((bW rfl _).1 ((fq h1.1 _).1 a2)).2 a3
  ·omega
 generalize mL t name = nr at *
 rw [decide_eq_true h1] at hr;rw [decide_eq_true h2] at AJ;have hmT : ∀ i : Nat,i < aM t→decide (c7 t (i : Int)) = true:=fun i hi=>decide_eq_true ((fq h1.1 _).2 (f3 i hi));have hmF : decide (c7 t ((aM t : Nat) : Int)) = false:=decide_eq_false (fun q=>f2 ((fq h1.1 _).1 q));have cZ : (bq name key).cells = [.v (.int .i64 1),ak name .any,.v (.int .u64 key),ak [] .any,aC [] .any]:=rfl;rw [cZ] at hc AJ;refine ab func34 rfl ntmps34 results34 (by simp) ?_;unfold ak aC at *
 refine jA ?_;refine wK fun K hK=>?_;refine jK (hr _) ?_;rintro s1 rfl;refine jF ?_;refine ad ?_;refine hK _ _ ?_;clear hK K;refine az 9 (by decide) ?_;intro K hK;refine jM ?_;refine ae (hc _) ?_;rintro r s2 ⟨rfl,rfl⟩;refine jM ?_;intro o ho;refine hK _ _ o _ rfl ho ?_;clear hK K ho;refine wK fun K hK=>?_;refine jK (AJ _) ?_;rintro s3 rfl;refine jF ?_;refine ad ?_;refine hK _ _ ?_;clear hK K;refine wK fun K hK=>?_;refine jQ fun K hK=>?_;refine ae (CU _) ?_;rintro r s4 ⟨rfl,rfl⟩;refine jV (decide_eq_false (show ¬ (0 : Int)≤nr by omega)) hK ?_;clear hK K;refine jF ?_;refine ad ?_;refine hK _ _ ?_;clear hK K;refine jA ?_;refine wK fun K hK=>?_;refine ag ?_;refine aH (fun E s2=>∃ i : Nat,i≤aM t∧E 10 = .v (.int .i64 i)∧E 0 = ax t∧E 9 = .cX [.v (.int .i64 1),.sl 1 name.length (name.map aw) .any,.v (.int .u64 key),.sl 1 0 [] .any,.sl 1 0 [] .any]∧s2 = s4)
  (fun E _=>match E 10 with | .v (.int _ i)=>aM t - i.toNat | _=>0) ?_ ?_
 ·exact ⟨0,Nat.zero_le _,rfl,rfl,rfl,rfl⟩
 ·rintro E1 s6 ⟨i,hi,g10,g0,g9,rfl⟩ -
  by_cases aO : i < aM t
  ·refine wK fun K2 aX=>?_;refine jS (Ai @g10 @g0) fun K hK=>?_;refine ae (U4 _ _) ?_;rintro r s7 ⟨rfl,rfl⟩;rw [hmT i aO];refine jR hK ?_;clear hK K;refine jE ?_;refine ad ?_;refine aX _ _ ?_;clear aX K2;refine ag ?_;refine jD (Ai @g10 (aQ i (by omega))) ?_;refine ⟨⟨i + 1,by omega,rfl,g0,g9,rfl⟩,?_⟩;simp only [g10,aG,↓reduceIte];omega
  ·obtain rfl : i = aM t:=(by omega);refine wK fun K2 aX=>?_;refine jS (Ai @g10 @g0) fun K hK=>?_;refine ae (U4 _ _) ?_;rintro r s7 ⟨rfl,rfl⟩;rw [hmF];refine jR hK ?_;clear hK K;refine jF ?_;refine aB ?_;simp only [av,aq,if_true];refine hK _ _ ?_;clear hK aX K2 K;refine wK fun K hK=>?_;have AK : ∀ (E : Env) (s8 : AS) (X : AV),aM t≠32→E 10 = .v (.int .i64 (aM t))→E 0 = X→bf Γ s8 X s7 (ax (eB t (aM t)))→E 9 = .cX [.v (.int .i64 1),.sl 1 name.length (name.map aw) .any,.v (.int .u64 key),.sl 1 0 [] .any,.sl 1 0 [] .any]→K E s8:=by
    clear g10 g0 g9 cZ hmF hmT FV AJ hr CU hc bR;intro E s8 X nh g10 g0 hS g9;refine hK _ _ ?_;clear hK K;refine zy (d:=0) (by decide +kernel) g0 hS ?_;obtain ⟨E2,Jt⟩ : ∃ E2,E2 = aG E 0 (ax (eB t (aM t))):=⟨_,rfl⟩;rw [← Jt];replace g0 : E2 0 = ax (eB t (aM t)):=(by rw [Jt]; exact bj _ _ _);replace g10 : E2 10 = .v (.int .i64 (aM t)):=(by rw [Jt,eG _ _ (by decide)]; exact g10);replace g9 : E2 9 = .cX [.v (.int .i64 1),.sl 1 name.length (name.map aw) .any,.v (.int .u64 key),.sl 1 0 [] .any,.sl 1 0 [] .any]:=(by rw [Jt,eG _ _ (by decide)]; exact g9);clear hS Jt s8 X E;obtain ⟨L',q1,q2,q3,q4,q5,q6⟩:=iR hlen.2 hlen.1 f1 nh;have hb:=q2.le;have Ea : iQ t (aM t) (bq name key) = (aD (aM t) L').foldl (mO (aM t)) ((eB t (aM t)).set (2 * aM t) (bq name key)):=(by unfold iQ; rw [q5]);have Eg:=fun (i : Nat) (hi : i < (aD (aM t) L').length)=>Jl q2 q4 (bq name key) (t:=t) q3 hi;have Nq:=fun x hx=>iw q2 q4 x hx;have xd:=fk q2 q4;have ND:=fun s=>fT (Γ:=Γ) (aM t) L' q2 q4 s;have As:=fun s=>jj (Γ:=Γ) (eB t (aM t)) (by omega) (by omega) (2 * aM t) (by omega) (bq name key) s;have T5 : (bq name key).cells = [.v (.int .i64 1),.sl 1 name.length (name.map aw) .any,.v (.int .u64 key),.sl 1 0 [] .any,.sl 1 0 [] .any]:=rfl;rw [T5] at As;have Iq:=bw (aM t) (by omega);have dz : fm (iQ t (aM t) (bq name key)) = ax (iQ t (aM t) (bq name key)):=gK (by rw [rQ,q3]; omega);rw [if_neg nh];simp only;rw [dz,Ea];have hMl : ((eB t (aM t)).set (2 * aM t) (bq name key)).length = 2 * L' - 1:=(by rw [List.length_set,q3]);have RO:=fun (l : List Nat)=>wG (aM t) l ((eB t (aM t)).set (2 * aM t) (bq name key));have ZH : ∀ s,ah prog Γ 77 [ax ((eB t (aM t)).set (2 * aM t) (bq name key))] s (fun r s'=>r = .v (.int .i64 L')∧s' = s):=by
     intro s;have:=dX (Γ:=Γ) ((eB t (aM t)).set (2 * aM t) (bq name key)) (by omega) s;rwa [jg q2 hMl] at this
    generalize ax (eB t (aM t)) = M0 at *
    generalize (eB t (aM t)).set (2 * aM t) (bq name key) = M at *
    refine jS (Ai @g9 (Ai @g10 (Ai @g0 @Iq))) fun K hK=>?_;refine ae (As _) ?_;rintro r s8 ⟨rfl,rfl⟩;refine jR hK ?_;clear hK K;refine jS @g10 fun K hK=>?_;refine ae (ZH _) ?_;rintro r s9 ⟨rfl,rfl⟩;refine jN @g10 ?_;refine ae (ND _) ?_;rintro r Cs ⟨rfl,rfl⟩;unfold aC;have TJ:=bZ (aD (aM t) L');have Gq : ∀ (i : Nat) (hi : i < (aD (aM t) L').length),List.take 1 (List.drop i ((bt (aD (aM t) L')).map aE)) = [.v (.int .i64 (((aD (aM t) L')[i] : Nat) : Int))]:=by
     intro i hi;rw [dC (by rw [bZ]; exact hi)];simp [bt]
    have ye:=fun (i : Nat) (hi : i < (aD (aM t) L').length) (M : List aa)=>iB (mO (aM t)) M hi;have nI : (aD (aM t) L').take (aD (aM t) L').length = aD (aM t) L':=List.take_length;generalize bt (aD (aM t) L') = PI at *
    generalize aD (aM t) L' = P at *
    rw [TJ];clear ND ZH As dz Ea qF U4;refine jR hK ?_;clear hK K;refine wK fun K hK=>?_;refine jA ?_;refine ag ?_;refine aH (fun E s2=>∃ (i : Nat),i≤P.length∧E 12 = .v (.int .i64 i)∧E 11 = .sl 1 P.length (PI.map aE) .any∧E 10 = .v (.int .i64 (aM t))∧E 0 = ax ((P.take i).foldl (mO (aM t)) M)∧Cs.le s2)
     (fun E _=>match E 12 with | .v (.int _ i)=>P.length - i.toNat | _=>0) ?_ ?_
    ·exact ⟨0,Nat.zero_le _,rfl,rfl,g10,rfl,AS.le.refl _⟩
    ·clear g9 g10 g0;rintro E1 s2 ⟨i,hi,g12,g11,g10,g0,hle⟩ -
     refine wK fun K2 aX=>?_;by_cases aO : i < P.length
     ·refine jB (Ai @g12 (Ai @g11 (Ai @af (decide_eq_true aO)))) ?_;refine jE ?_;refine ad ?_;refine aX _ _ ?_;clear aX K2;refine wK fun K3 bB=>?_;refine ag ?_;have bK : (0 : Int)≤((i : Nat) : Int):=(by omega);have ZI:=Gq i aO;have hpi:=Nq _ (List.getElem_mem aO);have Eh:=Eg i aO;have dc:=ye i aO M;have fM:=RO (P.take i);rw [hMl] at fM;generalize (P.take i).foldl (mO (aM t)) M = cur at *
      generalize P[i] = u at *
      have hu : u < cur.length:=(by omega);have rY : (0 : Int)≤((u : Nat) : Int):=(by omega);have bN:=cT hu;rw [Eh] at bN;have As:=fun n s=>jj (Γ:=Γ) cur (by omega) (by omega) u hu n s;have TM : E1 0 = .sl 5 cur.length (au aa.cells cur) .any:=g0;have FV:=h1.nd u;have Io:=NG h1 (i:=u);have sS : ∀ (E : Env) (s3 : AS),E 12 = .v (.int .i64 i)→E 11 = .sl 1 P.length (PI.map aE) .any→E 10 = .v (.int .i64 (aM t))→E 0 = ax ((P.take (i + 1)).foldl (mO (aM t)) M)→Cs.le s3→K3 E s3:=by
       intro E s3 f12 f11 f10 f0 vY;refine bB _ _ ?_;clear bB K3;refine jD (Ai @f12 (aQ i (by omega))) ?_;refine ⟨⟨i + 1,by omega,rfl,f11,f10,f0,vY⟩,?_⟩;simp only [g12,aG,↓reduceIte];omega
      clear bB;rw [dc] at sS;generalize hXC : au aa.cells cur = XC at *
      generalize hN : nd t u = N at *
      have pL : ∀ (h : N.kind = 2),mO (aM t) cur u = cur.set u (F1 N (aM t)):=(fun h=>by unfold mO; rw [Eh,if_pos h]; rfl);have CV : ∀ (h : N.kind≠2),mO (aM t) cur u = cur:=(fun h=>by unfold mO; rw [Eh,if_neg h]);obtain ⟨nk,nm,ny,iq,nu⟩:=N;unfold aa.cells at bN;unfold aC at bN;simp only at pL CV Io;refine jS (Ai @g12 (Ai @g11 (Ai @TM (Ai @bK (Ai @af (Ai @aO (Ai @ZI (Ai @rY (Ai @hu @bN))))))))) fun K hK=>?_;intro TP Je;refine hK _ _ ?_;clear hK K;have ZJ:=AS.le_none hle Je;have oc:=AS.bg hle ZJ;refine wK fun K4 fS=>?_;by_cases m9 : nk = 2
      ·refine jB (eqI m9) ?_;refine jF ?_;refine ad ?_;refine fS _ _ ?_;clear fS K4;refine jA ?_;refine wK fun K5 js=>?_;refine jA ?_;refine ag ?_;have NF:=((eQ (by rw [m9])).1 FV).2.2;have Od : nu.length≤32:=iJ NF;have bT:=KH NF Io (by omega);have Jv:=pL m9;rw [Jv] at sS;have ZK:=fun s=>As (F1 ⟨nk,nm,ny,iq,nu⟩ (aM t)) s;have hN2 : (F1 ⟨nk,nm,ny,iq,nu⟩ (aM t)).cells = [.v (.int .i64 nk),.sl 1 nm.length (nm.map aw) .any,.v (.int .u64 ny),.sl 1 iq.length (iq.map aw) .any,.sl 1 (sj nu (aM t : Int)).length ((sj nu (aM t : Int)).map aE) .any]:=rfl;rw [hN2] at ZK;generalize ax (cur.set u (F1 ⟨nk,nm,ny,iq,nu⟩ (aM t))) = NX at *
       generalize ax cur = CX at *
       have MA:=fun (k : Nat) s=>rE (Γ:=Γ) nu (k : Int) (by omega) s;clear CV pL Jv bN hN hXC dc RO Eg ye Gq;refine aH (fun E s3=>∃ (k : Nat) (x : AV),k≤32∧E 15 = .v (.int .i64 k)∧E 14 = x∧E 13 = .ptr TP 0∧E 12 = .v (.int .i64 i)∧E 11 = .sl 1 P.length (PI.map aE) .any∧E 10 = .v (.int .i64 (aM t))∧E 0 = CX∧cU 1 Cs s3 x (rl nu (aM t) k).length ((rl nu (aM t) k).map aE)∧Cs.le s3∧s3.aJ TP = some [.v (.int .i64 nk),.sl 1 nm.length (nm.map aw) .any,.v (.int .u64 ny),.sl 1 iq.length (iq.map aw) .any,.sl 1 nu.length (nu.map aE) .any])
        (fun E _=>match E 15 with | .v (.int _ i)=>32 - i.toNat | _=>0) ?_ ?_
       ·exact ⟨0,_,Nat.zero_le _,rfl,rfl,rfl,g12,g11,g10,g0,cU.nil _ _ _,oc _,AS.aj _ _ _⟩
       ·clear g12 g11 g10 g0 hle oc Je;rintro E1 s3 ⟨k,x,hk,g15,g14,g13,g12,g11,g10,g0,hx,hle,eU⟩ -
        refine wK fun K6 oE=>?_;by_cases ll : k < 32
        ·refine jB (Ai @g15 (decide_eq_true (show (k : Int) < 32 by omega))) ?_;refine jE ?_;refine ad ?_;refine oE _ _ ?_;clear oE K6;refine wK fun K7 Ep=>?_;refine ag ?_;have hs:=AR nu (aM t) k;have Ld:=CW nu (aM t) k;have bO : ∀ (E : Env) (s4 : AS) (x2 : AV),E 15 = .v (.int .i64 k)→E 14 = x2→E 13 = .ptr TP 0→E 12 = .v (.int .i64 i)→E 11 = .sl 1 P.length (PI.map aE) .any→E 10 = .v (.int .i64 (aM t))→E 0 = CX→cU 1 Cs s4 x2 (rl nu (aM t) (k + 1)).length ((rl nu (aM t) (k + 1)).map aE)→Cs.le s4→s4.aJ TP = s3.aJ TP→K7 E s4:=by
          intro E s4 x2 f15 f14 f13 f12 f11 f10 f0 fx vY fo;refine Ep _ _ ?_;clear Ep K7;refine jD (Ai @f15 (aQ k (by omega))) ?_;refine ⟨⟨k + 1,x2,by omega,rfl,f14,f13,f12,f11,f10,f0,fx,vY,by rw [fo]; exact eU⟩,?_⟩;simp only [g15,aG,↓reduceIte];omega
         clear Ep;refine wK fun K8 Jn=>?_;have hN : ∀ (E : Env),E 84 = .v (.bool false)→¬ (k = aM t∨(k : Int) ∈ nu)→E 15 = .v (.int .i64 k)→E 14 = x→E 13 = .ptr TP 0→E 12 = .v (.int .i64 i)→E 11 = .sl 1 P.length (PI.map aE) .any→E 10 = .v (.int .i64 (aM t))→E 0 = CX→K8 E s3:=by
          intro E f84 mZ f15 f14 f13 f12 f11 f10 f0;rw [hs,if_neg mZ,List.append_nil] at bO;refine Jn _ _ ?_;clear Jn K8;refine wC fun X Y hX hY=>?_;refine jP (Ai @DB @f84) ?_;refine hY ?_;clear hX hY X Y;refine ad ?_;simp only [aq,av,if_true,if_false];exact bO _ _ _ f15 f14 f13 f12 f11 f10 f0 hx hle rfl
         have hY : ∀ (E : Env),E 84 = .v (.bool true)→(k = aM t∨(k : Int) ∈ nu)→E 15 = .v (.int .i64 k)→E 14 = x→E 13 = .ptr TP 0→E 12 = .v (.int .i64 i)→E 11 = .sl 1 P.length (PI.map aE) .any→E 10 = .v (.int .i64 (aM t))→E 0 = CX→K8 E s3:=by
          intro E f84 pF f15 f14 f13 f12 f11 f10 f0;rw [hs,if_pos pF,List.length_append,List.length_singleton,List.map_append,List.map_cons,List.map_nil] at bO;generalize rl nu (aM t) k = F at *
          refine Jn _ _ ?_;clear hN Jn K8;refine wC fun X Y hX hY=>?_;refine jP (Ai @DB @f84) ?_;refine hX ?_;clear hX hY X Y;rcases hx with ⟨rfl,lI,rV⟩ | ⟨t',e,rfl,lq,iO⟩
          ·refine wE fun K hK=>?_;simp only [↓DN,Qa,Qb,Qc,Qd,Qe,Qf,Qg,Qh,reduceCtorEq,↓reduceIte,Na,Nb,Nc,Nk,Nf,Ng,Nh,Za,Zb,Zc,TT,f14,f15,aE,bL,List.replicate_succ];intro t' lq;refine hK _ _ ?_;simp only [aq,av,if_true,if_false];rw [lI,rV] at bO;exact bO _ _ (.sl 1 1 [.v (.int .i64 k)] (.own t' 0)) f15 rfl f13 f12 f11 f10 f0 (.inr ⟨t',0,rfl,by simp [AS.cd],bd hle lq⟩) (AS.bC hle (bd hle lq) 0) rfl
          ·refine wE fun K hK=>?_;simp only [↓DN,Qa,Qb,Qc,Qd,Qe,Qf,Qg,Qh,reduceCtorEq,↓reduceIte,Na,Nb,Nc,Nk,Nf,Ng,Nh,Za,Zb,Zc,TT,f14,f15,aE,lq,List.replicate_succ];refine ⟨by omega,by omega,hK _ _ ?_⟩;simp only [aq,av,if_true,if_false];exact bO _ _ (.sl 1 (F.length + 1) (F.map aE ++ [.v (.int .i64 k)]) (.own t' (e + 1))) f15 rfl f13 f12 f11 f10 f0 (.inr ⟨t',e + 1,rfl,by simp [AS.cd],iO⟩) (AS.bC hle iO (e + 1)) rfl
         clear Jn bO;by_cases hv : k = aM t
         ·refine jU (Ai @g15 (Ai @g10 (Mf hv))) fun K hK=>?_;exact hK _ _ (hY _ rfl (.inl hv) g15 g14 g13 g12 g11 g10 g0)
         ·by_cases hm : (k : Int) ∈ nu
          ·refine jU (Ai @g15 (Ai @g10 (Ai @g13 (Ai @eU (Mg hv))))) fun K hK=>?_;refine ae (MA _ _) ?_;rintro r s9 ⟨rfl,rfl⟩;rw [decide_eq_true hm];refine jM ?_;exact hK _ _ (hY _ rfl (.inr hm) g15 g14 g13 g12 g11 g10 g0)
          ·refine jU (Ai @g15 (Ai @g10 (Ai @g13 (Ai @eU (Mg hv))))) fun K hK=>?_;refine ae (MA _ _) ?_;rintro r s9 ⟨rfl,rfl⟩;rw [decide_eq_false hm];refine jM ?_;exact hK _ _ (hN _ rfl (fun q=>q.elim hv hm) g15 g14 g13 g12 g11 g10 g0)
        ·obtain rfl : k = 32:=(by omega);rw [bT] at hx;refine jB (Ai @g15 (decide_eq_false (show ¬ (((32 : Nat) : Int) < 32) by decide))) ?_;refine jF ?_;refine aB ?_;simp only [av,aq,if_true];refine js _ _ ?_;clear js K5 oE K6;have ox:=hx.one;have wx:=hx.aL;have cx : AV.cells x = [x]:=by rcases hx with ⟨rfl,_,_⟩ | ⟨t',e,rfl,_,_⟩ <;> rfl
         simp only [AV.one] at ox;simp only [AV.cells] at cx;refine jB (Ai @g14 (Ai @g13 (Ai @eU (Ai @ox @cx)))) ?_;refine fy T.mixed [5,6] (by kernel_rfl) ?_;intro K hK;refine jN (Ai @g0 (Ai @g11 (Ai @g12 (Ai @g13 (Ai @bK (Ai @af (Ai @aO @ZI))))))) ?_;refine ae (ah.jq (.cons (AV.aL.refl _) (.cons (AV.aL.refl _) (.cons (AV.fR (.cons (AV.aL.refl _) (.cons (AV.aL.refl _) (.cons (AV.aL.refl _) (.cons (AV.aL.refl _) (.cons wx .nil)))))) .nil))) (ZK _)) ?_;rintro r s9 ⟨rfl,rfl⟩;refine jR hK ?_;clear hK K;simp only [aq,av,if_true,if_false];exact sS _ _ g12 g11 g10 rfl (AS.bg hle ZJ _)
      ·rw [CV m9] at sS;refine jB (O5 m9) ?_;refine jE ?_;refine aB ?_;simp only [av,aq,if_true,if_false];refine sS _ _ g12 g11 g10 g0 (oc _)
     ·refine jB (Ai @g12 (Ai @g11 (Ai @af (decide_eq_false aO)))) ?_;refine jF ?_;refine aB ?_;simp only [av,aq,if_true];refine hK _ _ ?_;clear hK aX K2 K;obtain rfl : i = P.length:=(by omega);rw [nI] at g0;refine jB (Ai @g0 @g10) ?_;refine jI ?_;exact jW ⟨rfl,hle⟩
   clear hK;by_cases qH : aM t = aY t
   ·refine jS (Ai @g10 @g0) fun K hK=>?_;refine ae (qF _) ?_;rintro r s8 ⟨rfl,rfl⟩;refine jV (Mf qH) hK ?_;clear hK K;refine jE ?_;by_cases nh : aM t = 32
    ·rw [if_pos nh];refine wK fun K5 js=>?_;refine jB (Ai @g10 (gB (show (aM t : Int) = 32 by omega))) ?_;refine jE ?_;refine jA ?_;refine jI ?_;exact jW ⟨rfl,AS.le.refl _⟩
    ·rw [if_neg nh] at *
     refine wK fun K5 js=>?_;refine jB (Ai @g10 (e8 (show (aM t : Int)≠32 by omega))) ?_;refine jF ?_;refine ad ?_;refine js _ _ ?_;clear js K5;have hm : eB t (aM t) = t ++ List.replicate (t.length + 1) aa.bp:=if_pos qH;have TM : E1 0 = .sl 5 t.length (au aa.cells t) .any:=g0;have iW:=AP t;have iO : t.length≠0:=(by have:=hlen.2.le; omega);refine vU rfl (by simp) rfl (by simp) ?_;intro ops;refine jN @TM ?_;refine ⟨_,fun G a w hr=>dP (n:=0) (m:=t.length) (cs:=[]) (ds:=au aa.cells t) (e:=64) rfl underlying23 (by simp only [↓DN,Qa,Qb,Qc,Qd,Qe,Qf,Qg,Qh,reduceCtorEq,↓reduceIte,Na,Nb,Nc,Nk,Nf,Ng,Nh,Za,Zb,Zc,TT]; try rfl) T.Oa (by rw [T.kX]; decide) (by rw [T.kX]; rfl) (by rw [T.kX]; simp only [↓DN,Qa,Qb,Qc,Qd,Qe,Qf,Qg,Qh,reduceCtorEq,↓reduceIte,Na,Nb,Nc,Nk,Nf,Ng,Nh,Za,Zb,Zc,TT,iE,aN,aG,Nc,↓reduceIte]) iO (by rw [T.L4]; omega) (by omega) iW (by rw [T.kX]; exact .inl ⟨rfl,rfl,.inr (.inr rfl)⟩) hr.eval hr.st,?_⟩;rw [T.kX];rintro r s1 ⟨ob,cap,rest,rfl,dA,jo,mG,eU,rfl⟩;have eU : s8.aJ ob = none:=by
      rcases eU with h | ⟨_,h⟩
      ·exact h
      ·simp [aN,aG] at h
     refine jN (Ai @TM (aQ t.length (by omega))) ?_;rw [Nat.zero_add] at *
     refine ⟨_,fun G a w hr=>lj (n:=t.length) (k:=t.length + 1) (cs:=au aa.cells t) (e:=64) rfl underlying23 underlying3 T.Oa (by rw [T.kX]; decide) (by rw [T.kX]; rfl) rfl (by simp only [aN,aG,Nc,↓reduceIte]) (by omega) (by rw [T.L4]; omega) (by omega) (by rw [T.kX]; simp only [aN,aG,Nc,↓reduceIte]; exact .inr ⟨ob,cap,rest,rfl,AS.aj _ _ _,Go.AM.cL (c:=aa.cells) eE t,mG,dA,jo⟩) hr.eval hr.st,?_⟩;rw [T.kX];rintro r9 s9 ⟨Rw,cap',rest',rfl,xfZ,xh0,PQ,nA,rfl⟩;simp only [aN,aG,Nc,↓reduceIte] at nA;refine jM ?_;have ff:=bf.more (Γ:=Γ) (t:=t) (k:=t.length + 1) (rest':=rest') (cap':=cap') eU nA;rw [← hm,List.append_assoc] at ff;exact AK _ _ _ nh g10 rfl ff g9
   ·have hm : eB t (aM t) = t:=if_neg qH;rw [hm] at AK;refine jS (Ai @g10 @g0) fun K hK=>?_;refine ae (qF _) ?_;rintro r s8 ⟨rfl,rfl⟩;refine jV (Mg qH) hK ?_;clear hK K;refine jF ?_;refine ad ?_;exact AK _ _ _ (by omega) g10 g0 (bf.refl _) g9
end Go.Proofs.YtcjifoccjlpapaaGreatDoor
