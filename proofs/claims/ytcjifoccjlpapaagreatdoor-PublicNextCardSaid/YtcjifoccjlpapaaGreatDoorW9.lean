/- Contracts of functions, each walked once; each theorem states its conditions. -/
import Derived.Test.YtcjifoccjlpapaaGreatDoorW8
import Derived.Test.YtcjifoccjlpapaaGreatDoorAMp6
import Derived.Test.YtcjifoccjlpapaaGreatDoorW1
import Derived.Test.YtcjifoccjlpapaaGreatDoorW7
import Derived.Test.YtcjifoccjlpapaaGreatDoorW5
import Derived.Test.YtcjifoccjlpapaaGreatDoorW2
import Derived.Test.YtcjifoccjlpapaaGreatDoorAMp5
import Derived.Test.YtcjifoccjlpapaaGreatDoorAMp4
set_option linter.unusedSimpArgs false
set_option linter.unusedVariables false
open Nat renaming reduceLT → Na, reduceLeDiff → Nb, reduceEqDiff → Nc, reduceAdd → Nk, reduceMul → Nf, reducePow → Ng, reduceSub → Nh, reduceBEq → Nz
open Int renaming reduceLT → Za, reduceLE → Zb, reduceToNat → Zc
open And renaming intro → Ai
open Go.AM renaming ashift → Qa, aconv → Qb, aindexAddr → Qc, aindex → Qd, aslice → Qe, abuiltin → Qf, awp_reg_seq → wS, awp_reg_end → wE, awp_seq_k → wK, awp_cond_k → wC
open Go.AM.AV renaming cells → Qg, one → Qh
set_option maxRecDepth 100000
set_option maxHeartbeats 8000000
namespace Go.AM
open Go
structure xA where
  t : List aa
  old : List Int
  fresh : List Int
def bV (t : List aa) (p : aF) : List aa × Int × Int :=
  if p.kind = 2 then ((fV t p.leaf p.key).1,p.leaf,(fV t p.leaf p.key).2)
  else if p.kind = 3 then ((fW t p.leaf).1,p.leaf,(fW t p.leaf).2)
  else ((eo t p.name p.key).1,((eo t p.name p.key).2.1 : Int),(eo t p.name p.key).2.2)
def jl (k : Int) (p : aF) (st : xA) : Option xA :=
  if p.kind≠k then some st
  else if (bV st.t p).2.2≠0∨(k≠1∧(bV st.t p).2.1 ∈ st.old) then none
  else if k = 1 then some ⟨(bV st.t p).1,st.old,st.fresh ++ [(bV st.t p).2.1]⟩
  else some ⟨(bV st.t p).1,st.old ++ [(bV st.t p).2.1],st.fresh⟩
def gI (k : Int) : List aF→xA→Option xA
  | [],st=>some st
  | p :: ps,st=>(jl k p st).bind (gI k ps)
def ka (ps : List aF) : List Int→xA→Option xA
  | [],st=>some st
  | k :: ks,st=>(gI k ps st).bind (ka ps ks)
def cS (t : List aa) (sd : Int) (ps : List aF) : List aa × List Int × Bool :=
  match ka ps [2,3,1] ⟨t,[sd],[]⟩ with
  | some st=>(st.t,st.fresh,true)
  | none=>([],[],false)
theorem tq (t : List aa) (p : aF) : ((bV t p).1 = []∧(bV t p).2.2≠0)∨(aA (bV t p).1∧(bV t p).2.2 = 0):=by
  unfold bV;by_cases h2 : p.kind = 2
  · rw [if_pos h2]; exact NU t p.leaf p.key
  · rw [if_neg h2];by_cases h3 : p.kind = 3
    · rw [if_pos h3]; exact Qq t p.leaf
    · rw [if_neg h3]; exact NR t p.name p.key
theorem Gx {t : List aa} {p : aF} (h : (bV t p).2.2 = 0) : aA (bV t p).1:=by
  rcases tq t p with ⟨_,k⟩ | ⟨k,_⟩
  · exact absurd h k
  · exact k
theorem j9 {k : Int} {p : aF} (st : xA) (h : p.kind≠k) : jl k p st = some st:=if_pos h
theorem lT {k : Int} {p : aF} {st : xA} (h : p.kind = k) (he : (bV st.t p).2.2≠0) : jl k p st = none:=by
  unfold jl; rw [if_neg (fun q=>q h),if_pos (.inl he)]
theorem rC {k : Int} {p : aF} {st : xA} (h : p.kind = k) (h1 : k≠1) (he : (bV st.t p).2.1 ∈ st.old) : jl k p st = none:=by
  unfold jl; rw [if_neg (fun q=>q h),if_pos (.inr ⟨h1,he⟩)]
theorem wc {p : aF} {st : xA} (h : p.kind = 1) (he : (bV st.t p).2.2 = 0) : jl 1 p st = some ⟨(bV st.t p).1,st.old,st.fresh ++ [(bV st.t p).2.1]⟩:=by
  unfold jl; rw [if_neg (fun q=>q h),if_neg (by rintro (q | q); exact q he; exact q.1 rfl),if_pos rfl]
theorem rD {k : Int} {p : aF} {st : xA} (h : p.kind = k) (h1 : k≠1) (he : (bV st.t p).2.2 = 0) (hd : (bV st.t p).2.1 ∉ st.old) : jl k p st = some ⟨(bV st.t p).1,st.old ++ [(bV st.t p).2.1],st.fresh⟩:=by
  unfold jl; rw [if_neg (fun q=>q h),if_neg (by rintro (q | q); exact q he; exact hd q.2),if_neg h1]
theorem Ix {k : Int} {ps : List aF} {j : Nat} (h : j < ps.length) (st : xA) : gI k (ps.drop j) st = (jl k ps[j] st).bind (gI k (ps.drop (j + 1))):=by
  rw [List.drop_eq_getElem_cons h]; rfl
theorem nU {k : Int} {p : aF} {st iC : xA} (hr : aA st.t) (h : jl k p st = some iC) : aA iC.t:=by
  unfold jl at h;split at h
  · cases h; exact hr
  · split at h
    · cases h
    · rename_i h1 h2;have he : (bV st.t p).2.2 = 0:=Classical.byContradiction fun q=>h2 (.inl q);split at h <;> (cases h; exact Gx he)
theorem kN {k : Int} : ∀ {ps : List aF} {st iC : xA},aA st.t→gI k ps st = some iC→aA iC.t
  | [],st,iC,hr,h=>by cases h; exact hr
  | p :: ps,st,iC,hr,h=>by
    simp only [gI] at h;cases hs : jl k p st with
    | none=>rw [hs] at h; cases h
    | some s1=>rw [hs] at h; exact kN (nU hr hs) h
theorem vu {ps : List aF} : ∀ {ks : List Int} {st iC : xA},aA st.t→ka ps ks st = some iC→aA iC.t
  | [],st,iC,hr,h=>by cases h; exact hr
  | k :: ks,st,iC,hr,h=>by
    simp only [ka] at h;cases hs : gI k ps st with
    | none=>rw [hs] at h; cases h
    | some s1=>rw [hs] at h; exact vu (kN hr hs) h
theorem kH {t : List aa} {sd : Int} {ps : List aF} (hr : aA t) (h : (cS t sd ps).2.2 = true) : aA (cS t sd ps).1:=by
  unfold cS at h ⊢;split at h
  · rename_i st hs;exact vu hr hs
  · cases h
def Bo (s0 s : AS) (x : AV) (l : List Int) : Prop:=x = .sl 1 l.length (l.map aE) .new∨∃ t e,x = .sl 1 l.length (l.map aE) (.own t e)∧s.own t = some e∧s0.own t = none
theorem Bo.aL {s0 s : AS} {x : AV} {l : List Int} (h : Bo s0 s x l) : x.aL (aC l .any):=by
  rcases h with rfl | ⟨t,e,rfl,_⟩
  · exact AV.db
  · exact AV.db
theorem pB {p : aF} (h : p.right) : p.kind = 1∨p.kind = 2∨p.kind = 3:=by
  rcases h with h | h | h
  · exact .inl h.1
  · exact .inr (.inl h.1)
  · exact .inr (.inr h.1)
end Go.AM
namespace Go.Proofs.YtcjifoccjlpapaaGreatDoor
open Go Go.AM Go.Proofs Tryz
variable {Γ : Nat→List AV}
theorem A6 (hG : Γ 3 = eW.map nj) (t : List aa) (hr : aA t) (p : aF) (hp : p.right) (s : AS) :
  ah prog Γ 67 [ax t,.agg p.cells] s (fun r s'=>r = .dZ [fm (bV t p).1,.v (.int .i64 (bV t p).2.1),.v (.int .i64 (bV t p).2.2)]∧s' = s):=by
 refine ab func67 rfl ntmps67 results67 (by simp) ?_;have ht:=tr hr;have Of : p.name.length≤2 ^ 45:=by rcases hp with h | h | h <;> omega
 have h1:=fun s=>ah.tidy (Gr (Γ:=Γ) hG t ht p.name p.key Of s);have h2:=fun s=>ah.tidy (AL (Γ:=Γ) hG t ht p.leaf p.key s);have h3:=fun s=>ah.tidy (AO (Γ:=Γ) hG t ht p.leaf s);have hk:=pB hp;have e1 : p.kind = 1→bV t p = ((eo t p.name p.key).1,((eo t p.name p.key).2.1 : Int),(eo t p.name p.key).2.2):=(fun h=>by unfold bV; rw [if_neg (by omega),if_neg (by omega)]);have e2 : p.kind = 2→bV t p = ((fV t p.leaf p.key).1,p.leaf,(fV t p.leaf p.key).2):=fun h=>if_pos h;have e3 : p.kind = 3→bV t p = ((fW t p.leaf).1,p.leaf,(fW t p.leaf).2):=(fun h=>by unfold bV; rw [if_neg (by omega),if_pos h]);generalize bV t p = TT0 at *
 obtain ⟨pk,pl,pn,py,pi⟩:=p;simp only at *
 generalize (eo t pn py).1 = A at *
 generalize (eo t pn py).2.1 = Ai at *
 generalize (eo t pn py).2.2 = Ae at *
 generalize (fV t pl py).1 = U at *
 generalize (fV t pl py).2 = Ue at *
 generalize (fW t pl).1 = R at *
 generalize (fW t pl).2 = Re at *
 clear hp hr ht Of;unfold aF.cells;simp only;unfold ax ak at *
 generalize au aa.cells t = X at *
 refine az 3 (by decide) ?_;intro K hK;refine jM ?_;intro o ho;refine hK _ _ o _ rfl ho ?_;clear hK K ho;refine wK fun K hK=>?_;refine jA ?_;refine ag ?_;rcases hk with rfl | rfl | rfl
 ·cases e1 rfl;refine jB (show ((1 : Int) == 2) = false from rfl) ?_;refine jF ?_;refine jB (show ((1 : Int) == 3) = false from rfl) ?_;refine jF ?_;refine ad ?_;refine hK _ _ ?_;clear hK K;refine jK (h1 _) ?_;rintro s1 rfl;exact jJ
 ·cases e2 rfl;refine jB (show ((2 : Int) == 2) = true from rfl) ?_;refine jE ?_;refine jK (h2 _) ?_;rintro s1 rfl;refine aZ T.mixed [] (by kernel_rfl) ?_;intro K hK;refine jR hK ?_;clear hK K;exact jJ
 ·cases e3 rfl;refine jB (show ((3 : Int) == 2) = false from rfl) ?_;refine jF ?_;refine jB (show ((3 : Int) == 3) = true from rfl) ?_;refine jE ?_;refine jK (h3 _) ?_;rintro s1 rfl;refine aZ T.mixed [] (by kernel_rfl) ?_;intro K hK;refine jR hK ?_;clear hK K;exact jJ
def kn (i : Nat) : Int:=if i = 0 then 2 else if i = 1 then 3 else 1
theorem Rn {i : Nat} (h : i < 3) : List.take 1 (List.drop i ([2,3,1].map aE)) = [.v (.int .i64 (kn i))]:=by
 have : i = 0∨i = 1∨i = 2:=(by omega);rcases this with rfl | rfl | rfl <;> rfl
theorem I5 {i : Nat} (h : i < 3) : [(2 : Int),3,1].drop i = kn i :: [(2 : Int),3,1].drop (i + 1):=by
 have : i = 0∨i = 1∨i = 2:=(by omega);rcases this with rfl | rfl | rfl <;> rfl
theorem zI (hG : Γ 3 = eW.map nj) (t : List aa) (hr : aA t) (sd : Int) (ps : List aF) (hp : ∀ p ∈ ps,p.right) (xd : ps.length≤16) (s : AS) :
  ah prog Γ 26 [ax t,.v (.int .i64 sd),.sl 5 ps.length (au aF.cells ps) .any] s (fun r s'=>r = .dZ [if (cS t sd ps).2.2 = true then ax (cS t sd ps).1 else bL,aC (cS t sd ps).2.1 .any,.v (.bool (cS t sd ps).2.2)]∧s' = s):=by
 refine ah.tidy (Q:=fun r=>r = .dZ [if (cS t sd ps).2.2 = true then ax (cS t sd ps).1 else bL,aC (cS t sd ps).2.1 .any,.v (.bool (cS t sd ps).2.2)]) ?_
 refine ab func26 rfl ntmps26 results26 (by simp) ?_
 have bN:=fun (i : Nat) (h : i < 3)=>Rn h
 have Bd : [AV.v (.int .i64 2),.v (.int .i64 3),.v (.int .i64 1)] = [2,3,1].map aE:=rfl
 have fU:=fun i (h : i < ps.length)=>dB (c:=aF.cells) (k:=5) (fun _=>rfl) h
 obtain ⟨R0,Rm⟩ : ∃ R0,R0 = ka ps [2,3,1] ⟨t,[sd],[]⟩:=⟨_,rfl⟩
 have qL : R0 = none→cS t sd ps = ([],[],false):=fun h=>by unfold cS; rw [← Rm,h]
 have Fy : ∀ st,R0 = some st→cS t sd ps = (st.t,st.fresh,true):=fun st h=>by unfold cS; rw [← Rm,h]
 generalize cS t sd ps = FF at *
 have dV : R0 = none→∀ s6 : AS,s.le s6→∃ r s',(AV.dZ [.v (.slice none 0 0),.v (.slice none 0 0),.v (.bool false)]).aL r∧s'.le s6∧(r = .dZ [if FF.2.2 = true then ax FF.1 else bL,aC FF.2.1 .any,.v (.bool FF.2.2)]∧s.le s'):=fun h s6 hle=>by
  cases qL h
  exact ⟨_,s6,AV.eD (AV.aL.refl _) AV.aP (AV.aL.refl _),AS.le.refl _,rfl,hle⟩
 clear qL
 generalize hks : [2,3,1].map aE = KS at *
 have Uk : ∀ u,ax u = .sl 5 u.length (au aa.cells u) .any:=fun _=>rfl
 have MU : ax t = .sl 5 t.length (au aa.cells t) .any:=rfl
 rw [MU]
 generalize hPX : au aF.cells ps = PX at *
 refine jA ?_
 refine jA ?_
 refine wS fun K hK=>?_
 simp only [↓DN,Qa,Qb,Qc,Qd,Qe,Qf,Qg,Qh,reduceCtorEq,↓reduceIte,Na,Nb,Nc,Nk,Nf,Ng,Nh,Za,Zb,Zc,TT,List.replicate_succ,List.replicate_zero]
 refine hK _ _ ?_;clear hK K
 refine wK fun K hK=>?_
 refine jA ?_
 refine ag ?_
 refine aH (fun E s2=>∃ (i : Nat) (st : xA),i≤3∧aA st.t∧ka ps ([2,3,1].drop i) st = R0∧E 22 = .v (.int .i64 i)∧E 21 = .v (.int .i64 3)∧E 20 = .sl 1 3 KS .new∧E 0 = .sl 5 st.t.length (au aa.cells st.t) .any∧E 2 = .sl 5 ps.length PX .any∧s.le s2 ∧
   (i < 2→E 9 = .v (.slice none 0 0)∧st.fresh = []∧Bo s s2 (E 10) st.old)∧(2≤i→cU 1 s s2 (E 9) st.fresh.length (st.fresh.map aE))∧st.old.length + st.fresh.length≤1 + i * 16)
  (fun E _=>match E 22 with | .v (.int _ i)=>3 - i.toNat | _=>0) ?_ ?_
 ·refine ⟨0,⟨t,[sd],[]⟩,by decide,hr,Rm.symm,by simp only [aG,Nc,↓reduceIte]; rfl,by simp only [aG,Nc,↓reduceIte]; rfl,?_,by simp only [aG,dE,List.getD_cons_zero,List.getD_cons_succ,Nc,↓reduceIte],by simp only [aG,dE,List.getD_cons_zero,List.getD_cons_succ,Nc,↓reduceIte],AS.le.refl _,fun _=>⟨(by simp only [aG,Nc,↓reduceIte]),rfl,.inl (by simp only [aG,Nc,↓reduceIte]; rfl)⟩,fun h=>absurd h (by decide),by simp⟩
  simp only [aG,Nc,↓reduceIte]
  rw [← Bd]
  rfl
 ·rintro E1 s4 ⟨i,st,hi,fN,cv,g22,g21,g20,g0,g2,hle,sW,tP,hlen⟩ -
  by_cases aO : i < 3
  ·refine jB (Ai @g22 (Ai @g21 (decide_eq_true (show ((i : Nat) : Int) < 3 by omega)))) ?_
   refine wK fun K2 aX=>?_
   refine jE ?_
   refine ad ?_
   refine aX _ _ ?_;clear aX K2
   refine wK fun K3 bB=>?_
   refine ag ?_
   have bK : (0 : Int)≤(i : Int):=by omega
   have gq:=bN i aO
   rw [I5 aO] at cv
   have q22:=g22
   have sS : ∀ (E : Env) (s5 : AS) (st : xA),aA st.t→ka ps ([2,3,1].drop (i + 1)) st = R0→E 22 = .v (.int .i64 i)→E 21 = .v (.int .i64 3)→E 20 = .sl 1 3 KS .new→E 0 = .sl 5 st.t.length (au aa.cells st.t) .any→E 2 = .sl 5 ps.length PX .any→s.le s5 →
     (i + 1 < 2→E 9 = .v (.slice none 0 0)∧st.fresh = []∧Bo s s5 (E 10) st.old)→(2≤i + 1→cU 1 s s5 (E 9) st.fresh.length (st.fresh.map aE))→st.old.length + st.fresh.length≤1 + (i + 1) * 16→K3 E s5:=by
    intro E s5 st fN cv g22 g21 g20 g0 g2 hle sW tP hlen
    refine bB _ _ ?_;clear bB K3
    refine jD (Ai @g22 (aQ i (by omega))) ?_
    refine ⟨⟨i + 1,st,by omega,fN,cv,by simp only [aG,Nc,↓reduceIte],by simp only [aG,g21,Nc,↓reduceIte],by simp only [aG,g20,Nc,↓reduceIte],by simp only [aG,g0,Nc,↓reduceIte],by simp only [aG,g2,Nc,↓reduceIte],hle,?_,?_,hlen⟩,?_⟩
    ·simpa only [aG,Nc,↓reduceIte] using sW
    ·simpa only [aG,Nc,↓reduceIte] using tP
    ·simp only [q22,aG,↓reduceIte]
     omega
   clear bB
   refine jB (Ai @g20 (Ai @g22 (Ai @bK (Ai @aO (Ai @gq @af))))) ?_
   refine jB @g2 ?_
   refine ag ?_
   obtain ⟨k,yB⟩ : ∃ k,k = kn i:=⟨_,rfl⟩
   rw [← yB] at cv ⊢
   have ZS : (i < 2→k = 2∨k = 3)∧(2≤i→k = 1):=by
    unfold kn at yB
    have : i = 0∨i = 1∨i = 2:=by omega
    rcases this with rfl | rfl | rfl <;> simp at yB <;> omega
   refine aH (fun E s5=>∃ (j : Nat) (st : xA),j≤ps.length∧aA st.t∧(gI k (ps.drop j) st).bind (ka ps ([2,3,1].drop (i + 1))) = R0∧E 28 = .v (.int .i64 j)∧E 27 = .v (.int .i64 ps.length)∧E 26 = .sl 5 ps.length PX .any∧E 12 = .v (.int .i64 k)∧E 22 = .v (.int .i64 i)∧E 21 = .v (.int .i64 3)∧E 20 = .sl 1 3 KS .new∧E 0 = .sl 5 st.t.length (au aa.cells st.t) .any∧E 2 = .sl 5 ps.length PX .any∧s.le s5 ∧
     (i < 2→E 9 = .v (.slice none 0 0)∧st.fresh = []∧Bo s s5 (E 10) st.old)∧(2≤i→cU 1 s s5 (E 9) st.fresh.length (st.fresh.map aE))∧st.old.length + st.fresh.length≤1 + i * 16 + j)
    (fun E _=>match E 28 with | .v (.int _ i)=>ps.length - i.toNat | _=>0) ?_ ?_
   ·refine ⟨0,st,Nat.zero_le _,fN,cv,by simp only [aG,Nc,↓reduceIte]; rfl,by simp only [aG,Nc,↓reduceIte],by simp only [aG,g2,Nc,↓reduceIte],by simp only [aG,Nc,↓reduceIte],by simp only [aG,g22,Nc,↓reduceIte],by simp only [aG,g21,Nc,↓reduceIte],by simp only [aG,g20,Nc,↓reduceIte],by simp only [aG,g0,Nc,↓reduceIte],by simp only [aG,g2,Nc,↓reduceIte],hle,?_,?_,by omega⟩
    ·simpa only [aG,Nc,↓reduceIte] using sW
    ·simpa only [aG,Nc,↓reduceIte] using tP
   ·clear sW tP hle g22 g21 g20 g0 g2 cv fN hlen st
    rintro E2 s5 ⟨j,st,hj,fN,cv,GM,Cq,HC,g12,g22,g21,g20,g0,g2,hle,sW,tP,hlen⟩ -
    by_cases gh : j < ps.length
    ·refine jB (Ai @GM (Ai @Cq (Ai @af (decide_eq_true gh)))) ?_
     refine wK fun K5 js=>?_
     refine jE ?_
     refine ad ?_
     refine js _ _ ?_;clear js K5
     refine wK fun K6 oE=>?_
     refine ag ?_
     have SS : (0 : Int)≤(j : Int):=by omega
     have gA:=fU j gh
     have IY:=hp _ (List.getElem_mem gh)
     rw [Ix gh] at cv
     generalize ps[j] = p at *
     have q28:=GM
     have dc : ∀ (E : Env) (s6 : AS) (st : xA),aA st.t→(gI k (ps.drop (j + 1)) st).bind (ka ps ([2,3,1].drop (i + 1))) = R0→E 28 = .v (.int .i64 j)→E 27 = .v (.int .i64 ps.length)→E 26 = .sl 5 ps.length PX .any→E 12 = .v (.int .i64 k)→E 22 = .v (.int .i64 i)→E 21 = .v (.int .i64 3)→E 20 = .sl 1 3 KS .new→E 0 = .sl 5 st.t.length (au aa.cells st.t) .any→E 2 = .sl 5 ps.length PX .any→s.le s6 →
       (i < 2→E 9 = .v (.slice none 0 0)∧st.fresh = []∧Bo s s6 (E 10) st.old)→(2≤i→cU 1 s s6 (E 9) st.fresh.length (st.fresh.map aE))→st.old.length + st.fresh.length≤1 + i * 16 + (j + 1)→K6 E s6:=by
      intro E s6 st fN cv GM Cq HC g12 g22 g21 g20 g0 g2 hle sW tP hlen
      refine oE _ _ ?_;clear oE K6
      refine jD (Ai @GM (aQ j (by omega))) ?_
      refine ⟨⟨j + 1,st,by omega,fN,cv,by simp only [aG,Nc,↓reduceIte],by simp only [aG,Cq,Nc,↓reduceIte],by simp only [aG,HC,Nc,↓reduceIte],by simp only [aG,g12,Nc,↓reduceIte],by simp only [aG,g22,Nc,↓reduceIte],by simp only [aG,g21,Nc,↓reduceIte],by simp only [aG,g20,Nc,↓reduceIte],by simp only [aG,g0,Nc,↓reduceIte],by simp only [aG,g2,Nc,↓reduceIte],hle,?_,?_,hlen⟩,?_⟩
      ·simpa only [aG,Nc,↓reduceIte] using sW
      ·simpa only [aG,Nc,↓reduceIte] using tP
      ·simp only [q28,aG,↓reduceIte]
       omega
     clear oE
     have UG:=fun s=>A6 (Γ:=Γ) hG st.t fN p IY s
     have La:=tq st.t p
     have Oe:=pB IY
     have f1:=j9 (k:=k) (p:=p) st
     have f2:=lT (k:=k) (p:=p) (st:=st)
     have f3:=rC (k:=k) (p:=p) (st:=st)
     have f4:=wc (p:=p) (st:=st)
     have f5:=rD (k:=k) (p:=p) (st:=st)
     obtain ⟨pk,pl,pn,py,pi⟩:=p
     simp only at f1 f2 f3 f4 f5 Oe
     unfold aF.cells at gA UG
     simp only at gA UG
     rw [Uk st.t] at UG
     unfold ak at gA UG
     refine az 14 (by decide) ?_
     intro K7 Ep
     simp only [↓DM,cw,DX,Nz,↓DN,Qa,Qb,Qc,Qd,Qe,Qf,Qg,Qh,reduceCtorEq,↓reduceIte,Na,Nb,Nc,Nk,Nf,Ng,Nh,Za,Zb,Zc,TT,HC,GM,SS,gh,gA,af]
     intro o1 q1
     refine Ep _ _ o1 _ (by simp only [aG,Nc,↓reduceIte]) q1 ?_
     clear Ep K7 q1
     refine wK fun K7 Ep=>?_
     by_cases Iy : pk = k
     ·refine jB (Ai @g12 (cC Iy)) ?_
      refine jF ?_
      refine ad ?_
      refine Ep _ _ ?_;clear Ep K7
      refine jS @g0 fun K hK=>?_
      refine ae (UG _) ?_
      rintro r s6 ⟨rfl,rfl⟩
      refine jR hK ?_;clear hK K
      clear UG
      generalize bV st.t ⟨pk,pl,pn,py,pi⟩ = W at *
      obtain ⟨u,lf,er⟩:=W
      simp only at *
      refine wK fun K8 Jn=>?_
      by_cases GQ : er = 0
      ·subst GQ
       have SU : aA u:=by
        rcases La with ⟨_,q⟩ | ⟨q,_⟩
        ·exact absurd rfl q
        ·exact q
       rw [gK (oK SU),Uk u]
       clear La f2
       by_cases ik : i < 2
       ·obtain ⟨g9,A7,eU⟩:=sW ik
        have oB : k≠1:=by have:=ZS.1 ik; omega
        have Um:=fun s=>mE (Γ:=Γ) st.old lf (by omega) s
        by_cases iH : lf ∈ st.old
        ·rw [f3 Iy oB iH] at cv
         rw [decide_eq_true iH] at Um
         refine jS (Ai @g12 (Ai (show ((0 : Int) != 0) = false from rfl) (bF oB))) fun K hK=>?_
         refine ae (ah.jq (.cons eU.aL (.cons (AV.aL.refl _) .nil)) (Um _)) ?_
         rintro r s7 ⟨rfl,rfl⟩
         refine jR hK ?_;clear hK K
         refine jE ?_
         refine jA ?_
         refine jI ?_
         exact dV cv.symm _ hle
        ·rw [f5 Iy oB rfl iH] at cv
         rw [decide_eq_false iH] at Um
         refine jS (Ai @g12 (Ai (show ((0 : Int) != 0) = false from rfl) (bF oB))) fun K hK=>?_
         refine ae (ah.jq (.cons eU.aL (.cons (AV.aL.refl _) .nil)) (Um _)) ?_
         rintro r s7 ⟨rfl,rfl⟩
         refine jR hK ?_;clear hK K
         refine jF ?_
         refine ad ?_
         refine Jn _ _ ?_;clear Jn K8
         refine jA ?_
         refine jB (Ai @g12 (dU oB)) ?_
         refine jF ?_
         have gC : ∀ (E : Env) (s8 : AS),E 28 = .v (.int .i64 j)→E 27 = .v (.int .i64 ps.length)→E 26 = .sl 5 ps.length PX .any→E 12 = .v (.int .i64 k)→E 22 = .v (.int .i64 i)→E 21 = .v (.int .i64 3)→E 20 = .sl 1 3 KS .new→E 0 = .sl 5 u.length (au aa.cells u) .any→E 2 = .sl 5 ps.length PX .any→E 9 = .v (.slice none 0 0)→s.le s8→Bo s s8 (E 10) (st.old ++ [lf])→K6 E s8 :=
          fun E s8 a1 a2 a3 a4 a5 a6 a7 a8 a9 a10 a11 a12=>dc E s8 ⟨u,st.old ++ [lf],st.fresh⟩ SU cv a1 a2 a3 a4 a5 a6 a7 a8 a9 a11 (fun _=>⟨a10,A7,a12⟩) (fun q=>absurd ik (by omega)) (by simp only [List.length_append,List.length_singleton]; omega)
         rcases eU with Qt | ⟨tk,e,Qt,ht,iO⟩
         ·refine wE fun K hK=>?_
          simp only [↓DN,Qa,Qb,Qc,Qd,Qe,Qf,Qg,Qh,reduceCtorEq,↓reduceIte,Na,Nb,Nc,Nk,Nf,Ng,Nh,Za,Zb,Zc,TT,Qt,List.replicate_succ,List.replicate_zero]
          refine ⟨by omega,by omega,fun tk ht=>?_⟩
          refine hK _ _ (gC _ _ (by simp only [aG,GM,Nc,↓reduceIte]) (by simp only [aG,Cq,Nc,↓reduceIte]) (by simp only [aG,HC,Nc,↓reduceIte]) (by simp only [aG,g12,Nc,↓reduceIte]) (by simp only [aG,g22,Nc,↓reduceIte]) (by simp only [aG,g21,Nc,↓reduceIte]) (by simp only [aG,g20,Nc,↓reduceIte]) (by simp only [aG,Nc,↓reduceIte]) (by simp only [aG,g2,Nc,↓reduceIte]) (by simp only [aG,g9,Nc,↓reduceIte]) (AS.bC hle (bd hle ht) 0) ?_)
          refine .inr ⟨tk,0,?_,by simp [AS.cd],bd hle ht⟩
          simp only [aG,Nc,↓reduceIte]
          rw [List.length_append,List.map_append]
          rfl
         ·refine wE fun K hK=>?_
          simp only [↓DN,Qa,Qb,Qc,Qd,Qe,Qf,Qg,Qh,reduceCtorEq,↓reduceIte,Na,Nb,Nc,Nk,Nf,Ng,Nh,Za,Zb,Zc,TT,Qt,List.replicate_succ,List.replicate_zero,ht]
          refine ⟨by omega,by omega,hK _ _ (gC _ _ (by simp only [aG,GM,Nc,↓reduceIte]) (by simp only [aG,Cq,Nc,↓reduceIte]) (by simp only [aG,HC,Nc,↓reduceIte]) (by simp only [aG,g12,Nc,↓reduceIte]) (by simp only [aG,g22,Nc,↓reduceIte]) (by simp only [aG,g21,Nc,↓reduceIte]) (by simp only [aG,g20,Nc,↓reduceIte]) (by simp only [aG,Nc,↓reduceIte]) (by simp only [aG,g2,Nc,↓reduceIte]) (by simp only [aG,g9,Nc,↓reduceIte]) (AS.bC hle iO (e + 1)) ?_)⟩
          refine .inr ⟨tk,e + 1,?_,by simp [AS.cd],iO⟩
          simp only [aG,Nc,↓reduceIte]
          rw [List.length_append,List.map_append]
          rfl
       ·have hrb:=tP (by omega)
        obtain rfl : k = 1:=ZS.2 (by omega)
        rw [f4 Iy rfl] at cv
        refine jB (Ai @g12 (Ai (show ((0 : Int) != 0) = false from rfl) (show ((1 : Int) != 1) = false from rfl))) ?_
        refine jF ?_
        refine ad ?_
        refine Jn _ _ ?_;clear Jn K8
        refine jA ?_
        refine jB (Ai @g12 (show ((1 : Int) == 1) = true from rfl)) ?_
        refine jE ?_
        rcases hrb with ⟨h9,hz,G7⟩ | ⟨tk,e,h9,ht,iO⟩
        ·refine wE fun K hK=>?_
         simp only [↓DN,Qa,Qb,Qc,Qd,Qe,Qf,Qg,Qh,reduceCtorEq,↓reduceIte,Na,Nb,Nc,Nk,Nf,Ng,Nh,Za,Zb,Zc,TT,h9,bL,List.replicate_succ,List.replicate_zero]
         intro tk ht
         have hfe : st.fresh = []:=List.length_eq_zero_iff.1 hz
         refine hK _ _ (dc _ _ ⟨u,st.old,st.fresh ++ [lf]⟩ SU cv (by simp only [aG,GM,Nc,↓reduceIte]) (by simp only [aG,Cq,Nc,↓reduceIte]) (by simp only [aG,HC,Nc,↓reduceIte]) (by simp only [aG,g12,Nc,↓reduceIte]) (by simp only [aG,g22,Nc,↓reduceIte]) (by simp only [aG,g21,Nc,↓reduceIte]) (by simp only [aG,g20,Nc,↓reduceIte]) (by simp only [aG,Nc,↓reduceIte]) (by simp only [aG,g2,Nc,↓reduceIte]) (AS.bC hle (bd hle ht) 0) (fun q=>absurd q ik) (fun _=>?_) (by simp only [List.length_append,List.length_singleton]; omega))
         refine .inr ⟨tk,0,?_,by simp [AS.cd],bd hle ht⟩
         simp only [aG,Nc,↓reduceIte]
         rw [hfe]
         rfl
        ·refine wE fun K hK=>?_
         simp only [↓DN,Qa,Qb,Qc,Qd,Qe,Qf,Qg,Qh,reduceCtorEq,↓reduceIte,Na,Nb,Nc,Nk,Nf,Ng,Nh,Za,Zb,Zc,TT,h9,List.replicate_succ,List.replicate_zero,ht]
         refine ⟨by omega,by omega,hK _ _ (dc _ _ ⟨u,st.old,st.fresh ++ [lf]⟩ SU cv (by simp only [aG,GM,Nc,↓reduceIte]) (by simp only [aG,Cq,Nc,↓reduceIte]) (by simp only [aG,HC,Nc,↓reduceIte]) (by simp only [aG,g12,Nc,↓reduceIte]) (by simp only [aG,g22,Nc,↓reduceIte]) (by simp only [aG,g21,Nc,↓reduceIte]) (by simp only [aG,g20,Nc,↓reduceIte]) (by simp only [aG,Nc,↓reduceIte]) (by simp only [aG,g2,Nc,↓reduceIte]) (AS.bC hle iO (e + 1)) (fun q=>absurd q ik) (fun _=>?_) (by simp only [List.length_append,List.length_singleton]; omega))⟩
         refine .inr ⟨tk,e + 1,?_,by simp [AS.cd],iO⟩
         simp only [aG,Nc,↓reduceIte]
         rw [List.length_append,List.map_append]
         rfl
      ·rw [f2 Iy GQ] at cv
       refine jB (bF GQ) ?_
       refine jE ?_
       refine jA ?_
       refine jI ?_
       exact dV cv.symm _ hle
     ·rw [f1 Iy] at cv
      refine jB (Ai @g12 (bF Iy)) ?_
      refine jE ?_
      refine aB ?_
      simp only [av,aq,if_true,if_false,Nc]
      refine dc _ _ st fN cv (by simp only [aG,GM,Nc,↓reduceIte]) (by simp only [aG,Cq,Nc,↓reduceIte]) (by simp only [aG,HC,Nc,↓reduceIte]) (by simp only [aG,g12,Nc,↓reduceIte]) (by simp only [aG,g22,Nc,↓reduceIte]) (by simp only [aG,g21,Nc,↓reduceIte]) (by simp only [aG,g20,Nc,↓reduceIte]) (by simp only [aG,g0,Nc,↓reduceIte]) (by simp only [aG,g2,Nc,↓reduceIte]) hle ?_ ?_ (by omega)
      ·simpa only [aG,Nc,↓reduceIte] using sW
      ·simpa only [aG,Nc,↓reduceIte] using tP
    ·refine jB (Ai @GM (Ai @Cq (Ai @af (decide_eq_false gh)))) ?_
     refine wK fun K5 js=>?_
     refine jF ?_
     refine aB ?_
     simp only [av,aq,if_true,if_false,Nc]
     obtain rfl : j = ps.length:=by omega
     rw [List.drop_length] at cv
     refine sS _ _ st fN cv (by simp only [aG,g22,Nc,↓reduceIte]) (by simp only [aG,g21,Nc,↓reduceIte]) (by simp only [aG,g20,Nc,↓reduceIte]) (by simp only [aG,g0,Nc,↓reduceIte]) (by simp only [aG,g2,Nc,↓reduceIte]) hle ?_ ?_ (by omega)
     ·simp only [aG,Nc,↓reduceIte]
      exact fun h=>sW (by omega)
     ·simp only [aG,Nc,↓reduceIte]
      intro h
      by_cases h2 : i < 2
      ·obtain ⟨z1,z2,_⟩:=sW h2
       rw [z1,z2]
       exact cU.nil _ _ _
      ·exact tP (by omega)
  ·refine jB (Ai @g22 (Ai @g21 (decide_eq_false (show ¬ ((i : Nat) : Int) < 3 by omega)))) ?_
   refine wK fun K2 aX=>?_
   refine jF ?_
   refine aB ?_
   simp only [av,aq,if_true]
   refine hK _ _ ?_;clear hK aX K2 K
   obtain rfl : i = 3:=by omega
   cases Fy st cv.symm
   have hb:=tP (by decide)
   refine jB @g0 ?_
   refine jI ?_
   exact ⟨_,_,AV.eD (AV.aL.refl _) hb.aL (AV.aL.refl _),AS.le.refl _,rfl,hle⟩
def wB (S : gy) : Prop:=(S.tree.length≤31∧S.group.length≤40∧S.KK.length≤60∧S.inter.length≤60)∧∀ n ∈ S.tree,pM n
instance (S : gy) : Decidable (wB S):=by unfold wB; infer_instance
theorem BC (S : gy) (s : AS) : ah prog Γ 6 [.agg S.cells] s (fun r s'=>r = .v (.bool (decide (wB S)))∧s' = s):=by
 refine ab func6 rfl ntmps6 results6 (by simp) ?_;have bN:=fun (i : Nat) (hi : i < S.tree.length)=>cT hi;obtain ⟨Z,hZ⟩ : ∃ Z : Bool,Z = decide (wB S):=⟨_,rfl⟩;rw [← hZ];obtain ⟨g,e,t,c,q⟩:=S;have hS : Z = true↔(t.length≤31∧g.length≤40∧c.length≤60∧q.length≤60)∧∀ n ∈ t,pM n:=(by rw [hZ,decide_eq_true_iff]; exact Iff.rfl);clear hZ;unfold gy.cells;simp only at bN ⊢;unfold ax ak;generalize hX : au aa.cells t = X at *
 refine az 1 (by decide) ?_;intro K hK;refine jM ?_;intro o ho;refine hK _ _ o _ rfl ho ?_;clear hK K ho;refine wK fun K hK=>?_;rcases tt4 (decide ((31 : Int) < (t.length : Int))) (decide ((40 : Int) < (g.length : Int))) (decide ((60 : Int) < (c.length : Int))) (decide ((60 : Int) < (q.length : Int))) with hd | hd | hd | hd | hd;case inr.inr.inr.inr =>
  have hB : t.length≤31∧g.length≤40∧c.length≤60∧q.length≤60:=by
   simp only [decide_eq_false_iff_not] at hd;omega
  refine jB @hd ?_;refine jF ?_;refine ad ?_;refine hK _ _ ?_;clear hK K;refine wK fun K hK=>?_;refine jA ?_;refine ag ?_;refine aH (fun E s2=>∃ i : Nat,i≤t.length∧(∀ b ∈ t.take i,pM b)∧E 3 = .v (.int .i64 i)∧E 1 = .cX [.sl 1 g.length (g.map aw) .any,.v (.int .i64 e),.sl 5 t.length X .any,.sl 1 c.length (c.map aw) .any,.sl 1 q.length (q.map aw) .any]∧s2 = s)
   (fun E _=>match E 3 with | .v (.int _ i)=>t.length - i.toNat | _=>0) ?_ ?_
  ·exact ⟨0,Nat.zero_le _,by simp,rfl,rfl,rfl⟩
  ·rintro E1 s4 ⟨i,hi,bT,g3,g1,rfl⟩ -
   refine wK fun K2 aX=>?_;by_cases aO : i < t.length
   ·refine jB (Ai @g3 (Ai @g1 (Ai @af (decide_eq_true aO)))) ?_;refine jE ?_;refine ad ?_;refine aX _ _ ?_;clear aX K2;refine wK fun K3 bB=>?_;refine ag ?_;have bK : (0 : Int)≤(i : Int):=(by omega);have gq:=bN i aO;have gQ:=List.take_succ_eq_append_getElem aO;have iH:=List.getElem_mem aO;rw [pE aO] at gq;generalize t[i] = N at *
    have fQ : ¬ pM N→Z = false:=fun q=>Bool.eq_false_iff.2 fun r=>q ((hS.1 r).2 N iH);have Er : N.name.length≤40→N.parent.length≤60→N.fF.length≤40→pM N:=fun a b c=>⟨a,b,c⟩;have mZ : pM N→N.name.length≤40∧N.parent.length≤60∧N.fF.length≤40:=fun h=>h;obtain ⟨nk,nm,ny,iq,nu⟩:=N;unfold aa.cells at gq;unfold ak aC at gq;simp only at Er mZ;rcases tt3 (decide ((40 : Int) < (nm.length : Int))) (decide ((60 : Int) < (iq.length : Int))) (decide ((40 : Int) < (nu.length : Int))) with he | he | he | he;case inr.inr.inr =>
     refine jB (Ai @g3 (Ai @g1 (Ai @bK (Ai @af (Ai @aO (Ai @gq @he)))))) ?_;refine jF ?_;refine ad ?_;simp only [aq,av,if_true,if_false];refine bB _ _ ?_;clear bB K3;refine jD (Ai @g3 (aQ i (by omega))) ?_;refine ⟨⟨i + 1,by omega,?_,rfl,g1,rfl⟩,?_⟩
     ·rw [gQ];intro x hx;rw [List.mem_append,List.mem_singleton] at hx;simp only [decide_eq_false_iff_not] at he;rcases hx with hx | rfl
      ·exact bT x hx
      ·exact Er (by omega) (by omega) (by omega)
     ·simp only [g3,aG,↓reduceIte];omega
    all_goals
     refine jB (Ai @g3 (Ai @g1 (Ai @bK (Ai @af (Ai @aO (Ai @gq @he)))))) ?_;refine jE ?_;refine jA ?_;refine jI ?_;rw [fQ fun h=>by
      have:=mZ h;simp only [decide_eq_true_eq,decide_eq_false_iff_not] at he;omega]
     exact jW ⟨rfl,rfl⟩
   ·refine jB (Ai @g3 (Ai @g1 (Ai @af (decide_eq_false aO)))) ?_;refine jF ?_;refine aB ?_;simp only [av,aq,if_true];refine hK _ _ ?_;clear hK aX K2 K;rw [List.take_of_length_le (by omega)] at bT;refine jA ?_;refine jI ?_;rw [hS.2 ⟨hB,bT⟩];exact jW ⟨rfl,rfl⟩
 all_goals
  refine jB @hd ?_;refine jE ?_;refine jA ?_;refine jI ?_;rw [show Z = false from Bool.eq_false_iff.2 fun h=>by
   have:=(hS.1 h).1;simp only [decide_eq_true_eq,decide_eq_false_iff_not] at hd;omega]
  exact jW ⟨rfl,rfl⟩
theorem MH {S : gy} (h : wB S) (hk : ∀ n ∈ S.tree,n.key < 2 ^ 64) : S.wf:=by
 have h1:=h.1.1;refine ⟨by omega,fun n hn=>⟨?_,hk n hn⟩⟩;have:=(h.2 n hn).2.2;omega
end Go.Proofs.YtcjifoccjlpapaaGreatDoor
namespace Go.AM
open Go
abbrev TU:=Nat→List UInt8
def Qu (f : TU) (v : Nat) (nm : List UInt8) : TU:=fun j=>if j = v then nm else f j
def NZ : List aF→TU→TU
  | [],f=>f
  | p :: ps,f=>if p.kind = 3 then NZ ps (Qu f p.leaf.toNat []) else NZ ps f
def Gy : List aF→TU→List Int→TU→Prop
  | [],f,L,f'=>L = []∧f' = f
  | p :: ps,f,L,f'=>(p.kind≠1→Gy ps f L f')∧(p.kind = 1→∃ (v : Nat) (L' : List Int),L = (v : Int) :: L'∧v < 32∧(∀ k : Nat,k < v→f k≠[])∧f v = []∧Gy ps (Qu f v p.name) L' f')
theorem TV {t : List aa} (h : aA t) : tK t 32:=by
  refine ⟨h,fun k hk hm=>?_,Nat.le_refl _⟩;have h1:=Jg hm;have h2:=fL t;omega
theorem Gz {t : List aa} (h : aA t) (k : Nat) : nameAt t k = []↔¬ bx t (k : Int):=by
  constructor
  · exact (AE h k).1
  · exact (AE h k).2
theorem Ek {p : aF} {st iC : xA} (hr : aA st.t) (h : jl 2 p st = some iC) : nameAt iC.t = nameAt st.t∧iC.fresh = st.fresh:=by
  by_cases hk : p.kind = 2
  · have he : (bV st.t p).2.2 = 0:=(Classical.byContradiction fun q=>by rw [lT hk q] at h; cases h);have hd : (bV st.t p).2.1 ∉ st.old:=(fun q=>by rw [rC hk (by decide) q] at h; cases h);rw [rD hk (by decide) he hd] at h;cases h;have ht : bV st.t p = ((fV st.t p.leaf p.key).1,p.leaf,(fV st.t p.leaf p.key).2):=if_pos hk;rw [ht] at he ⊢;rcases NQ (TV hr) p.leaf p.key with q | ⟨t',e,_,hn⟩
    · exact absurd he q
    · rw [e]; exact ⟨funext hn,rfl⟩
  · rw [j9 st hk] at h;cases h;exact ⟨rfl,rfl⟩
theorem vv : ∀ {ps : List aF} {st iC : xA},aA st.t→gI 2 ps st = some iC→nameAt iC.t = nameAt st.t∧iC.fresh = st.fresh
  | [],st,iC,_,h=>by cases h; exact ⟨rfl,rfl⟩
  | p :: ps,st,iC,hr,h=>by
    simp only [gI] at h;cases hs : jl 2 p st with
    | none=>rw [hs] at h; cases h
    | some s1 =>
      rw [hs] at h;obtain ⟨a1,a2⟩:=Ek hr hs;obtain ⟨b1,b2⟩:=vv (nU hr hs) h;exact ⟨b1.trans a1,b2.trans a2⟩
theorem El {p : aF} {st iC : xA} (hr : aA st.t) (h : jl 3 p st = some iC) : nameAt iC.t = (if p.kind = 3 then Qu (nameAt st.t) p.leaf.toNat [] else nameAt st.t)∧iC.fresh = st.fresh:=by
  by_cases hk : p.kind = 3
  · have he : (bV st.t p).2.2 = 0:=(Classical.byContradiction fun q=>by rw [lT hk q] at h; cases h);have hd : (bV st.t p).2.1 ∉ st.old:=(fun q=>by rw [rC hk (by decide) q] at h; cases h);rw [rD hk (by decide) he hd] at h;cases h;rw [if_pos hk];have ht : bV st.t p = ((fW st.t p.leaf).1,p.leaf,(fW st.t p.leaf).2):=(by unfold bV; rw [if_neg (by omega),if_pos hk]);rw [ht] at he ⊢;rcases Qp (TV hr) p.leaf with q | ⟨t',l,hl,e,_,_,hn⟩
    · exact absurd he q
    · rw [e,hl,Int.toNat_natCast]; exact ⟨funext hn,rfl⟩
  · rw [j9 st hk] at h;cases h;rw [if_neg hk];exact ⟨rfl,rfl⟩
theorem vw : ∀ {ps : List aF} {st iC : xA},aA st.t→gI 3 ps st = some iC→nameAt iC.t = NZ ps (nameAt st.t)∧iC.fresh = st.fresh
  | [],st,iC,_,h=>by cases h; exact ⟨rfl,rfl⟩
  | p :: ps,st,iC,hr,h=>by
    simp only [gI] at h;cases hs : jl 3 p st with
    | none=>rw [hs] at h; cases h
    | some s1 =>
      rw [hs] at h;obtain ⟨a1,a2⟩:=El hr hs;obtain ⟨b1,b2⟩:=vw (nU hr hs) h;refine ⟨?_,b2.trans a2⟩;rw [b1,a1];simp only [NZ];split <;> rfl
theorem vx : ∀ {ps : List aF} {st iC : xA},aA st.t→(∀ p ∈ ps,p.right)→gI 1 ps st = some iC→∃ L,iC.fresh = st.fresh ++ L∧Gy ps (nameAt st.t) L (nameAt iC.t)
  | [],st,iC,_,_,h=>by cases h; exact ⟨[],by simp,rfl,rfl⟩
  | p :: ps,st,iC,hr,hp,h=>by
    simp only [gI] at h;cases hs : jl 1 p st with
    | none=>rw [hs] at h; cases h
    | some s1 =>
      rw [hs] at h;obtain ⟨L,b1,b2⟩:=vx (nU hr hs) (fun q hq=>hp q (by simp [hq])) h;by_cases hk : p.kind = 1
      · have he : (bV st.t p).2.2 = 0:=(Classical.byContradiction fun q=>by rw [lT hk q] at hs; cases hs);rw [wc hk he] at hs;cases hs;have ht : bV st.t p = ((eo st.t p.name p.key).1,((eo st.t p.name p.key).2.1 : Int),(eo st.t p.name p.key).2.2):=(by unfold bV; rw [if_neg (by omega),if_neg (by omega)]);rw [ht] at he;rw [ht] at b1 b2;rcases fold_add (TV hr) p.name p.key with q | ⟨t',v,e,hv,hv1,Ru,_,hn⟩
        · exact absurd he q
        · rw [e] at b1 b2;simp only at b1 b2;refine ⟨(v : Int) :: L,by rw [b1]; simp,fun q=>absurd hk q,fun _=>⟨v,L,rfl,hv,fun k ll q=>((Gz hr k).1 q) (hv1 k ll),(Gz hr v).2 Ru,?_⟩⟩;have hf : nameAt t' = Qu (nameAt st.t) v p.name:=funext hn;rw [hf] at b2;exact b2
      · rw [j9 st hk] at hs;cases hs;exact ⟨L,b1,fun _=>b2,fun q=>absurd q hk⟩
theorem FQ {t : List aa} (hr : aA t) {sd : Int} {ps : List aF} (hp : ∀ p ∈ ps,p.right) (h : (cS t sd ps).2.2 = true) :
    Gy ps (NZ ps (nameAt t)) (cS t sd ps).2.1 (nameAt (cS t sd ps).1):=by
  unfold cS at h ⊢;cases Eg : ka ps [2,3,1] ⟨t,[sd],[]⟩ with
  | none=>rw [Eg] at h; cases h
  | some st =>
    simp only;simp only [ka] at Eg;cases h2 : gI 2 ps ⟨t,[sd],[]⟩ with
    | none=>rw [h2] at Eg; cases Eg
    | some s2 =>
      rw [h2] at Eg;simp only [Option.bind_some] at Eg;cases h3 : gI 3 ps s2 with
      | none=>rw [h3] at Eg; cases Eg
      | some s3 =>
        rw [h3] at Eg;simp only [Option.bind_some] at Eg;cases h1 : gI 1 ps s3 with
        | none=>rw [h1] at Eg; cases Eg
        | some s1 =>
          rw [h1] at Eg;cases Eg;obtain ⟨a1,a2⟩:=vv hr h2;obtain ⟨b1,b2⟩:=vw (kN hr h2) h3;obtain ⟨L,c1,c2⟩:=vx (kN (kN hr h2) h3) hp h1;rw [b2,a2] at c1;rw [b1,a1] at c2;simp only [List.nil_append] at c1;rw [c1];exact c2
theorem wz : ∀ {ps : List aF} {f f' : TU} {L : List Int},Gy ps f L f'→L.length≤ps.length
  | [],f,f',L,h=>by rw [h.1]; simp
  | p :: ps,f,f',L,h=>by
    by_cases hk : p.kind = 1
    · obtain ⟨v,L',rfl,_,_,_,h'⟩:=h.2 hk;have:=wz h';simp only [List.length_cons];omega
    · have:=wz (h.1 hk);simp only [List.length_cons];omega
end Go.AM
namespace Go.Proofs.YtcjifoccjlpapaaGreatDoor
open Go Go.AM Go.Proofs Tryz
variable {Γ : Nat→List AV}
theorem Em (s0 s : AS) (p : Nat) (st : List UInt8 × Bool) (f : Nat) (t : List UInt8) (hf : f < 2 ^ 64) (hl : st.1.length + t.length + 20≤2 ^ 45) (h : fu s0 s p st) :
  ah prog Γ 160 [.ptr p 0,.agg [.v (.int .u64 f),ak t .any]] s (fun r s'=>r = .dZ []∧fu s0 s' p (fD 2 t (gj 8 f st))):=by
 refine ab func160 rfl ntmps160 results160 (by simp) ?_;refine az 3 (by simp [bP]) ?_;intro K hK;refine jM ?_;intro o ho;refine hK _ _ o _ rfl ho ?_;clear hK K ho;refine jQ fun K hK=>?_;refine ae (dO s0 s p st f hf (by omega) h) ?_;rintro r s1 ⟨rfl,h1⟩;refine jR hK ?_;clear hK K;have Ba : (gj 8 f st).1.length≤st.1.length + 8:=by
  rw [eI]; unfold cy; split <;> simp
 refine jT fun K hK=>?_;refine ae (BD s0 s1 p _ _ t (Ca.any t) (by omega) h1) ?_;rintro r s2 ⟨rfl,h2⟩;refine jR hK ?_;clear hK K;simp only [cF,bI,bM,dh,List.toList_toArray,↓bj]; try simp only [UP,DF,Nc,↓reduceIte,DT]
 exact jW ⟨rfl,h2⟩
def Ml (f : Nat) (t : List UInt8) : List UInt8:=be 8 f ++ (be 2 t.length ++ t)
theorem x9 (f : Nat) (t : List UInt8) (hf : f < 2 ^ 64) (ht : t.length≤1000) (s : AS) :
  ah prog Γ 170 [.agg [.v (.int .u64 f),.v (.string ⟨t.toArray⟩)]] s (fun r s'=>r = .v (.string ⟨(Ml f t).toArray⟩)∧s' = s):=by
 refine ab func170 rfl ntmps170 results170 (by simp) ?_;refine az 1 (by simp [bP]) ?_;intro K hK;refine jM ?_;intro o ho;refine hK _ _ o _ rfl ho ?_;clear hK K ho;have hx : (be 8 f).length + (be 2 t.length ++ t).length < 2 ^ 62:=(by simp; omega);have hh : Ml f t = be 8 f ++ (be 2 t.length ++ t):=rfl;have h2:=fun s=>eA (Γ:=Γ) t 2 (by omega) (by decide) s;generalize be 2 t.length ++ t = u at *
 refine aZ T.mixed [2,5] (by kernel_rfl) ?_;intro K hK;refine jM ?_;refine ae (bJ f 8 hf (by decide) _) ?_;rintro r s1 ⟨rfl,rfl⟩;refine jM ?_;refine ae (h2 _) ?_;rintro r s2 ⟨rfl,rfl⟩;refine jV (bz hx) hK ?_;clear hK K;refine jI ?_;exact jW ⟨by rw [hh],rfl⟩
theorem lV {n : Int} (h : 0≤n) (k : n < 256) (st : List UInt8 × Bool) : bU 1 n st = cy (be 1 n.toNat) st:=by
 obtain ⟨m,rfl⟩ : ∃ m : Nat,n = (m : Int):=⟨n.toNat,by omega⟩;exact dM (by omega) st
theorem vy {k : Nat} {m : List UInt8} (h : m.length < 256 ^ k) (st : List UInt8 × Bool) : fD k m st = cy (qG k m) st:=nH h st
theorem yo (s0 s : AS) (p : Nat) (st : List UInt8 × Bool) (x : aF) (hw : x.wf) (hx : x.right) (hl : st.1.length + 100≤2 ^ 45) (h : fu s0 s p st) :
  ah prog Γ 94 [.ptr p 0,.agg x.cells] s (fun r s'=>r = .dZ []∧fu s0 s' p (cy x.text st)):=by
 refine ab func94 rfl ntmps94 results94 (by simp) ?_;obtain ⟨k,l,nm,key,zH⟩:=x;obtain ⟨w1,w2⟩:=hw;simp only at w1 w2;unfold aF.cells;have hk : 0≤k∧k < 256:=by rcases hx with h | h | h <;> (have:=h.1; simp only at this; omega)
 refine az 3 (by simp [bP]) ?_;intro K hK;refine jM ?_;intro o ho;refine hK _ _ o _ rfl ho ?_;clear hK K ho;refine jQ fun K hK=>?_;refine ae (cD s0 s p st k (by omega) (by omega) h) ?_;rintro r s1 ⟨rfl,h1⟩;rw [lV hk.1 hk.2] at h1;have l1:=cj (be 1 k.toNat) st;rw [aW] at l1;refine jR hK ?_;clear hK K;refine jA ?_;refine ag ?_;rcases hx with ⟨e1,e2,e3,e4,e5,e6⟩ | ⟨e1,e2,e3,e4,e5,e6⟩ | ⟨e1,e2,e3,e4,e5,e6⟩
 ·simp only at e1 e2 e3 e4 e5 e6;refine jB (gB e1) ?_;refine jE ?_;refine jQ fun K hK=>?_;refine ae (eJ s0 s1 p _ _ nm (Ca.any nm) (by omega) h1) ?_;rintro r s2 ⟨rfl,h2⟩;rw [vy (by omega),bA] at h2;have l2:=cj (be 1 k.toNat ++ qG 1 nm) st;rw [List.length_append,aW,fJ] at l2;refine jR hK ?_;clear hK K;refine jQ fun K hK=>?_;refine ae (dO s0 s2 p _ key w1 (by omega) h2) ?_;rintro r s3 ⟨rfl,h3⟩;rw [eI,bA] at h3;have l3:=cj (be 1 k.toNat ++ qG 1 nm ++ be 8 key) st;rw [List.length_append,List.length_append,aW,aW,fJ] at l3;refine jR hK ?_;clear hK K;refine jT fun K hK=>?_;refine ae (dO s0 s3 p _ zH w2 (by omega) h3) ?_;rintro r s4 ⟨rfl,h4⟩;rw [eI,bA] at h4;refine jR hK ?_;clear hK K;try simp only [av,aq]
  simp only [cF,bI,bM,dh,List.toList_toArray,↓bj]; try simp only [UP,DF,Nc,↓reduceIte,DT]
  refine jW ⟨rfl,?_⟩;have : aF.text ⟨k,l,nm,key,zH⟩ = be 1 k.toNat ++ qG 1 nm ++ be 8 key ++ be 8 zH:=by
   unfold aF.text aF.body;rw [if_pos e1];simp
  rw [this];exact h4
 ·simp only at e1 e2 e3 e4 e5 e6;refine jB (e8 (show k≠1 by omega)) ?_;refine jF ?_;refine jB (gB e1) ?_;refine jE ?_;refine jQ fun K hK=>?_;refine ae (cD s0 s1 p _ l (by omega) (by omega) h1) ?_;rintro r s2 ⟨rfl,h2⟩;rw [lV e2 (by omega),bA] at h2;have l2:=cj (be 1 k.toNat ++ be 1 l.toNat) st;rw [List.length_append,aW,aW] at l2;refine jR hK ?_;clear hK K;refine jT fun K hK=>?_;refine ae (dO s0 s2 p _ key w1 (by omega) h2) ?_;rintro r s3 ⟨rfl,h3⟩;rw [eI,bA] at h3;refine jR hK ?_;clear hK K;try simp only [av,aq]
  simp only [cF,bI,bM,dh,List.toList_toArray,↓bj]; try simp only [UP,DF,Nc,↓reduceIte,DT]
  refine jW ⟨rfl,?_⟩;have : aF.text ⟨k,l,nm,key,zH⟩ = be 1 k.toNat ++ be 1 l.toNat ++ be 8 key:=by
   unfold aF.text aF.body;rw [if_neg (show ¬ k = 1 by omega),if_pos e1];simp
  rw [this];exact h3
 ·simp only at e1 e2 e3 e4 e5 e6;refine jB (e8 (show k≠1 by omega)) ?_;refine jF ?_;refine jB (e8 (show k≠2 by omega)) ?_;refine jF ?_;refine jB (gB e1) ?_;refine jE ?_;refine jT fun K hK=>?_;refine ae (cD s0 s1 p _ l (by omega) (by omega) h1) ?_;rintro r s2 ⟨rfl,h2⟩;rw [lV e2 (by omega),bA] at h2;refine jR hK ?_;clear hK K;try simp only [av,aq]
  simp only [cF,bI,bM,dh,List.toList_toArray,↓bj]; try simp only [UP,DF,Nc,↓reduceIte,DT]
  refine jW ⟨rfl,?_⟩;have : aF.text ⟨k,l,nm,key,zH⟩ = be 1 k.toNat ++ be 1 l.toNat:=by
   unfold aF.text aF.body;rw [if_neg (show ¬ k = 1 by omega),if_neg (show ¬ k = 2 by omega)]
  rw [this];exact h2
theorem KN (b : Bool) (s : AS) : ah prog Γ 95 [.v (.bool b)] s (fun r s'=>r = .v (.int .i64 (if b then 1 else 0))∧s' = s):=by
 refine ab func95 rfl ntmps95 results95 (by simp) ?_;refine wS fun K hK=>?_;simp only [↓DN,UP,DF,Qa,Qb,Qc,Qd,Qe,Qf,Qg,Qh,reduceCtorEq,↓reduceIte,Na,Nb,Nc,Nk,Nf,Ng,Nh,Za,Zb,Zc,ntmps95];refine hK _ _ ?_;clear hK K;refine wK fun K hK=>?_;cases b with
 | true =>
  refine wS fun K hK=>?_;simp only [↓DN,UP,DF,Qa,Qb,Qc,Qd,Qe,Qf,Qg,Qh,reduceCtorEq,↓reduceIte,Na,Nb,Nc,Nk,Nf,Ng,Nh,Za,Zb,Zc,ntmps95];refine hK _ _ ?_;clear hK K;refine wC fun X Y hX hY=>?_;simp only [↓DN,UP,DF,Qa,Qb,Qc,Qd,Qe,Qf,Qg,Qh,reduceCtorEq,↓reduceIte,Na,Nb,Nc,Nk,Nf,Ng,Nh,Za,Zb,Zc,ntmps95,DB];refine hX ?_;clear hX hY X Y;refine wS fun K hK=>?_;simp only [↓DN,UP,DF,Qa,Qb,Qc,Qd,Qe,Qf,Qg,Qh,reduceCtorEq,↓reduceIte,Na,Nb,Nc,Nk,Nf,Ng,Nh,Za,Zb,Zc,ntmps95];refine hK _ _ ?_;clear hK K;refine bo ?_;try simp only [av,aq]
  simp only [cF,bI,bM,dh,List.toList_toArray,↓bj]; try simp only [↓DN,UP,DF,Qa,Qb,Qc,Qd,Qe,Qf,Qg,Qh,reduceCtorEq,↓reduceIte,Na,Nb,Nc,Nk,Nf,Ng,Nh,Za,Zb,Zc,ntmps95,DT]
  exact jW ⟨rfl,rfl⟩
 | false =>
  refine wS fun K hK=>?_;simp only [↓DN,UP,DF,Qa,Qb,Qc,Qd,Qe,Qf,Qg,Qh,reduceCtorEq,↓reduceIte,Na,Nb,Nc,Nk,Nf,Ng,Nh,Za,Zb,Zc,ntmps95];refine hK _ _ ?_;clear hK K;refine wC fun X Y hX hY=>?_;simp only [↓DN,UP,DF,Qa,Qb,Qc,Qd,Qe,Qf,Qg,Qh,reduceCtorEq,↓reduceIte,Na,Nb,Nc,Nk,Nf,Ng,Nh,Za,Zb,Zc,ntmps95,DB];refine hY ?_;clear hX hY X Y;refine ad ?_;refine hK _ _ ?_;clear hK K;refine wS fun K hK=>?_;simp only [↓DN,UP,DF,Qa,Qb,Qc,Qd,Qe,Qf,Qg,Qh,reduceCtorEq,↓reduceIte,Na,Nb,Nc,Nk,Nf,Ng,Nh,Za,Zb,Zc,ntmps95];refine hK _ _ ?_;clear hK K;refine bo ?_;simp only [cF,bI,bM,dh,List.toList_toArray,↓bj]; try simp only [↓DN,UP,DF,Qa,Qb,Qc,Qd,Qe,Qf,Qg,Qh,reduceCtorEq,↓reduceIte,Na,Nb,Nc,Nk,Nf,Ng,Nh,Za,Zb,Zc,ntmps95,DT]
  exact jW ⟨rfl,rfl⟩
theorem yp (s0 s : AS) (p : Nat) (st : List UInt8 × Bool) (x : ck) (hw : x.wf) (hx : x.right) (hl : st.1.length + 20000≤2 ^ 45) (h : fu s0 s p st) :
  ah prog Γ 96 [.ptr p 0,.agg x.cells] s (fun r s'=>r = .dZ []∧fu s0 s' p (cy x.text st)):=by
 refine ab func96 rfl ntmps96 results96 (by simp) ?_;obtain ⟨key,pa,ps⟩:=x;obtain ⟨w1,w2,w3⟩:=hw;obtain ⟨x1,x2,x3,x4⟩:=hx;simp only at w1 w2 w3 x1 x2 x3 x4;unfold ck.cells;have Pf : ck.text ⟨key,pa,ps⟩ = be 8 key ++ (qG 1 pa ++ (be 1 ps.length ++ bS bk.text ps)):=rfl;rw [Pf];clear Pf;have qH : ∀ i,(bS bk.text (ps.take i)).length≤9400:=by
  intro i;have h1:=gd (f:=bk.text) (n:=1865) (l:=ps.take i) fun y hy=>bk.dQ (x1 y (List.mem_of_mem_take hy));have h2 : (ps.take i).length≤5:=(by rw [List.length_take]; omega);have h3 : (ps.take i).length * 1865≤5 * 1865:=Nat.mul_le_mul_right _ h2;omega
 have fU:=fun i (h : i < ps.length)=>dB (c:=bk.cells) (k:=2) (fun _=>rfl) h;generalize hXX : au bk.cells ps = XX at *
 refine az 3 (by simp [bP]) ?_;intro K hK;refine jM ?_;intro o ho;refine hK _ _ o _ rfl ho ?_;clear hK K ho;refine jQ fun K hK=>?_;refine ae (dO s0 s p st key w1 (by omega) h) ?_;rintro r s1 ⟨rfl,h1⟩;rw [eI] at h1;have l1:=cj (be 8 key) st;rw [aW] at l1;refine jR hK ?_;clear hK K;refine jQ fun K hK=>?_;refine ae (eJ s0 s1 p _ _ pa (Ca.any pa) (by omega) h1) ?_;rintro r s2 ⟨rfl,h2⟩;rw [vy (by omega),bA] at h2;have l2:=cj (be 8 key ++ qG 1 pa) st;rw [List.length_append,aW,fJ] at l2;refine jR hK ?_;clear hK K;refine jQ fun K hK=>?_;refine ae (cD s0 s2 p _ (ps.length : Int) (by omega) (by omega) h2) ?_;rintro r s3 ⟨rfl,h3⟩;rw [dM (by omega),bA] at h3;obtain ⟨ZT,TW⟩ : ∃ q,q = cy (be 8 key ++ qG 1 pa ++ be 1 ps.length) st:=⟨_,rfl⟩;have l3:=cj (be 8 key ++ qG 1 pa ++ be 1 ps.length) st;rw [List.length_append,List.length_append,aW,aW,fJ,← TW] at l3;rw [← TW] at h3;clear h1 h2 l1 l2;refine jR hK ?_;clear hK K;refine jA ?_;refine ag ?_;refine aH (fun E s1=>∃ i : Nat,i≤ps.length∧E 24 = .v (.int .i64 i)∧E 23 = .v (.int .i64 ps.length)∧E 22 = .sl 2 ps.length XX .any∧E 0 = .ptr p 0∧fu s0 s1 p (cy (bS bk.text (ps.take i)) ZT))
  (fun E _=>match E 24 with | .v (.int _ i)=>ps.length - i.toNat | _=>0) ?_ ?_
 ·exact ⟨0,Nat.zero_le _,rfl,rfl,rfl,by simp only [aG,dE,Nc,↓reduceIte,List.getD_cons_zero],by simpa [bS,tg] using h3⟩
 ·clear h3 h;rintro E1 s1 ⟨i,hi,g24,g23,g22,g0,h⟩ -
  by_cases aO : i < ps.length
  ·refine jB (Ai @g24 (Ai @g23 (Ai @af (decide_eq_true aO)))) ?_;refine wK fun K3 bB=>?_;refine jE ?_;refine ad ?_;refine bB _ _ ?_;clear bB K3;refine wK fun K3 bB=>?_;refine ag ?_;have bN:=fU i aO;have bK : (0 : Int)≤(i : Int):=(by omega);have K9:=j8 bk.text aO;have HM:=qH i;have lst:=cj (bS bk.text (ps.take i)) ZT;obtain ⟨y,hy⟩ : ∃ y,y = ps[i]:=⟨_,rfl⟩;rw [← hy] at bN K9;have zF : y ∈ ps:=(by rw [hy]; exact List.getElem_mem aO);have SH:=w2 y zF;have qo:=x1 y zF;clear hy;obtain ⟨f,t⟩:=y;obtain ⟨Pg,Rk,yw3⟩:=SH;obtain ⟨SJ,yr2,yr3⟩:=qo;simp only at Pg Rk yw3 SJ yr2 yr3;rw [show bk.text ⟨f,t⟩ = be 8 f ++ (be 1 t.length ++ bS bQ.gw t) from rfl] at K9;unfold bk.cells at bN;have SK : ∀ i,(bS bQ.gw (t.take i)).length≤1856:=by
    intro i;have h1:=gd (f:=bQ.gw) (n:=58) (l:=t.take i) fun y hy=>bQ.rB (SJ y (List.mem_of_mem_take hy));have h2 : (t.take i).length≤32:=(by rw [List.length_take]; omega);have h3 : (t.take i).length * 58≤32 * 58:=Nat.mul_le_mul_right _ h2;omega
   have uL:=fun i (h : i < t.length)=>dB (c:=bQ.cells) (k:=2) (fun _=>rfl) h;generalize au bQ.cells t = T at *
   refine az 5 (by simp [bP]) ?_;intro K2 aX;refine jN (Ai @g24 (Ai @g22 (Ai @af (Ai @aO (Ai @bK @bN))))) ?_;intro o ho;refine aX _ _ o _ rfl ho ?_;clear aX K2 ho;refine jS @g0 fun K hK=>?_;refine ae (dO s0 s1 p _ f Pg (by omega) h) ?_;rintro r s4 ⟨rfl,h4⟩;rw [eI,bA] at h4;have l4:=cj (bS bk.text (ps.take i) ++ be 8 f) ZT;rw [List.length_append,aW] at l4;refine jR hK ?_;clear hK K;refine jS @g0 fun K hK=>?_;refine ae (cD s0 s4 p _ (t.length : Int) (by omega) (by omega) h4) ?_;rintro r s5 ⟨rfl,h5⟩;rw [dM (by omega),bA] at h5;obtain ⟨Om,GA⟩ : ∃ q,q = cy (bS bk.text (ps.take i) ++ be 8 f ++ be 1 t.length) ZT:=⟨_,rfl⟩;have l5:=cj (bS bk.text (ps.take i) ++ be 8 f ++ be 1 t.length) ZT;rw [List.length_append,List.length_append,aW,aW,← GA] at l5;rw [← GA] at h5;refine jR hK ?_;clear hK K;refine jA ?_;refine ag ?_;refine aH (fun E s1=>∃ k : Nat,k≤t.length∧E 40 = .v (.int .i64 k)∧E 39 = .v (.int .i64 t.length)∧E 38 = .sl 2 t.length T .any∧E 24 = .v (.int .i64 i)∧E 23 = .v (.int .i64 ps.length)∧E 22 = .sl 2 ps.length XX .any∧E 0 = .ptr p 0∧fu s0 s1 p (cy (bS bQ.gw (t.take k)) Om))
    (fun E _=>match E 40 with | .v (.int _ i)=>t.length - i.toNat | _=>0) ?_ ?_
   ·exact ⟨0,Nat.zero_le _,rfl,rfl,rfl,g24,g23,g22,g0,by simpa [bS,tg] using h5⟩
   ·have G24:=g24;clear h5 h4 h bN g24 g23 g22 g0;rintro E2 s6 ⟨k,hk,Td,YC,g38,g24,g23,g22,g0,h⟩ -
    by_cases ll : k < t.length
    ·refine jB (Ai @Td (Ai @YC (Ai @af (decide_eq_true ll)))) ?_;refine wK fun K4 fS=>?_;refine jE ?_;refine ad ?_;refine fS _ _ ?_;clear fS K4;refine wK fun K4 fS=>?_;refine ag ?_;have bN:=uL k ll;have bK : (0 : Int)≤(k : Int):=(by omega);have Kc:=j8 bQ.gw ll;have xbu:=SK k;have xih:=cj (bS bQ.gw (t.take k)) Om;obtain ⟨z,hz⟩ : ∃ z,z = t[k]:=⟨_,rfl⟩;rw [← hz] at bN Kc;have KZ : z ∈ t:=(by rw [hz]; exact List.getElem_mem ll);have SM:=Rk z KZ;have hzr:=SJ z KZ;clear hz;obtain ⟨fz,tz⟩:=z;obtain ⟨zr1,zr2⟩:=hzr;simp only at zr1 zr2;have SM : fz < 2 ^ 64:=SM;rw [show bQ.gw ⟨fz,tz⟩ = be 8 fz ++ qG 2 tz from rfl] at Kc;unfold bQ.cells at bN;refine az 7 (by simp [bP]) ?_;intro K2 aX;refine jN (Ai @Td (Ai @g38 (Ai @af (Ai @ll (Ai @bK @bN))))) ?_;intro o ho;refine aX _ _ o _ rfl ho ?_;clear aX K2 ho;refine jU @g0 fun K hK=>?_;refine ae (Em s0 s6 p _ fz tz SM (by omega) h) ?_;rintro r s7 ⟨rfl,h7⟩;rw [vy (by omega),eI,bA,bA,← Kc] at h7;refine jR hK ?_;clear hK K;simp only [aq,av,if_true,if_false];refine fS _ _ ?_;clear fS K4;refine jD (Ai @Td (eH k (by omega))) ?_;refine ⟨⟨k + 1,by omega,rfl,YC,g38,g24,g23,g22,g0,h7⟩,?_⟩;simp only [Td,aG,↓reduceIte];omega
    ·refine jB (Ai @Td (Ai @YC (Ai @af (decide_eq_false ll)))) ?_;refine wK fun K4 fS=>?_;refine jF ?_;refine aB ?_;simp only [av,aq,if_true,if_false];rw [List.take_of_length_le (by omega),GA,bA,List.append_assoc,List.append_assoc,← K9] at h;refine bB _ _ ?_;clear bB fS K4 K3;refine jD (Ai @g24 (eH i (by omega))) ?_;refine ⟨⟨i + 1,by omega,rfl,g23,g22,g0,h⟩,?_⟩;simp only [G24,aG,↓reduceIte];omega
  ·refine jB (Ai @g24 (Ai @g23 (Ai @af (decide_eq_false aO)))) ?_;refine wK fun K3 bB=>?_;refine jF ?_;refine aB ?_;simp only [av,aq,if_true];simp only [cF,bI,bM,dh,List.toList_toArray,↓bj]; try simp only [UP,DF,Nc,↓reduceIte,DT]
   refine jW ⟨rfl,?_⟩;rw [List.take_of_length_le (by omega),TW,bA] at h;simpa using h
def aI.octets (c : aI) : List UInt8:=if c.right then c.text else []
def aI.contents (c : aI) : List UInt8:=if c.right then c.content else []
theorem BA (c : aI) (hf : aI.fits c) (hw : c.wf) (s : AS) : ah prog Γ 37 [.agg c.cells] s (fun r s'=>r = .dZ [ak (aI.contents c) .any,.v (.bool (decide c.right))]∧s' = s):=by
 refine ab func37 rfl ntmps37 results37 (by simp) ?_;have rW:=fun s=>vt (Γ:=Γ) c hf s;by_cases hr : c.right
 ·rw [show aI.contents c = c.content from if_pos hr];rw [decide_eq_true hr] at rW ⊢;have fM:=aI.qU hr;obtain ⟨w1,w2,w3⟩:=hw;obtain ⟨r1,r2,r3,r4,r5,r6,r7,r8⟩:=hr;obtain ⟨g,e,sd,ps,hp,pa,cf,mb⟩:=c;simp only at w1 w2 w3 r1 r2 r3 r4 r5 r6 r7 r8;have kG : hp = true→pa.right:=r6.1;clear r6;have RQ : aI.tail ⟨g,e,sd,ps,hp,pa,cf,mb⟩ = if hp then be 1 1 ++ pa.text else be 1 0:=rfl
  obtain ⟨C,hC⟩ : ∃ C,C = aI.content ⟨g,e,sd,ps,hp,pa,cf,mb⟩:=⟨_,rfl⟩;rw [← hC] at fM ⊢;have SQ : C = be 1 1 ++ (qG 1 g ++ (be 8 e.toNat ++ (be 1 sd.toNat ++ (be 1 ps.length ++ (bS aF.text ps ++ aI.tail ⟨g,e,sd,ps,hp,pa,cf,mb⟩))))):=hC;clear hC;rw [RQ] at SQ;clear RQ;have qH : ∀ i,(bS aF.text (ps.take i)).length≤640:=by
   intro i;have h1:=gd (f:=aF.text) (n:=40) (l:=ps.take i) fun y hy=>aF.dQ (r1 y (List.mem_of_mem_take hy));have h2 : (ps.take i).length≤16:=(by rw [List.length_take]; omega);have h3 : (ps.take i).length * 40≤16 * 40:=Nat.mul_le_mul_right _ h2;omega
  obtain ⟨pa2,TY⟩ : ∃ q,q = pa:=⟨_,rfl⟩;obtain ⟨pk,pp,dk⟩:=pa;have hu : ee .u64 e = ((e.toNat : Nat) : Int):=(by rw [← kC (n:=e.toNat) (by omega)]; congr 1; omega);have fU:=fun i (h : i < ps.length)=>dB (c:=aF.cells) (k:=5) (fun _=>rfl) h;have ND : ck.cells pa2 = [.v (.int .u64 pk),.sl 1 pp.length (pp.map aw) .any,.sl 2 dk.length (au bk.cells dk) .any]:=(by rw [TY]; rfl);unfold aI.cells at rW ⊢;simp only at rW ⊢;rw [← TY] at w2 kG SQ;clear TY;generalize hX : au bk.cells dk = X at *
  generalize hZ : au aF.cells ps = Z at *
  refine az 1 (by simp [bP]) ?_;intro K hK;refine jM ?_;intro o ho;refine hK _ _ o _ rfl ho ?_;clear hK K ho;refine wK fun K hK=>?_;refine jK (rW _) ?_;rintro s1 rfl;refine jF ?_;refine ad ?_;refine hK _ _ ?_;clear hK K;refine jQ fun K hK=>?_;refine ae (CC s1) ?_;rintro r s2 ⟨p,rfl,h0⟩;refine jR hK ?_;clear hK K;refine jQ fun K hK=>?_;refine ae (cD s1 s2 p _ 1 (by omega) (by simp) h0) ?_;rintro r s3 ⟨rfl,h1⟩;rw [lV (by omega) (by omega)] at h1;refine jR hK ?_;clear hK K;refine jQ fun K hK=>?_;refine ae (eJ s1 s3 p _ _ g (Ca.any g) (by have:=cj (be 1 (1 : Int).toNat) ([],false); simp at this ⊢; omega) h1) ?_;rintro r s4 ⟨rfl,h2⟩;rw [vy (by omega),bA] at h2;have l2:=cj (be 1 (1 : Int).toNat ++ qG 1 g) ([],false);rw [List.length_append,aW,fJ] at l2;simp only [List.length_nil] at l2;refine jR hK ?_;clear hK K;refine jS @hu fun K hK=>?_;refine ae (dO s1 s4 p _ e.toNat (by omega) (by omega) h2) ?_;rintro r s5 ⟨rfl,h3⟩;rw [eI,bA] at h3;have l3:=cj (be 1 (1 : Int).toNat ++ qG 1 g ++ be 8 e.toNat) ([],false);rw [List.length_append,List.length_append,aW,aW,fJ] at l3;simp only [List.length_nil] at l3;refine jR hK ?_;clear hK K;refine jQ fun K hK=>?_;refine ae (cD s1 s5 p _ sd (by omega) (by omega) h3) ?_;rintro r s6 ⟨rfl,h4⟩;rw [lV r4.1 (by omega),bA] at h4;have l4:=cj (be 1 (1 : Int).toNat ++ qG 1 g ++ be 8 e.toNat ++ be 1 sd.toNat) ([],false);rw [List.length_append,List.length_append,List.length_append,aW,aW,aW,fJ] at l4;simp only [List.length_nil] at l4;refine jR hK ?_;clear hK K;refine jQ fun K hK=>?_;refine ae (cD s1 s6 p _ (ps.length : Int) (by omega) (by omega) h4) ?_;rintro r s7 ⟨rfl,h5⟩;rw [dM (by omega),bA] at h5;obtain ⟨Om,GA⟩ : ∃ q,q = cy (be 1 (1 : Int).toNat ++ qG 1 g ++ be 8 e.toNat ++ be 1 sd.toNat ++ be 1 ps.length) ([],false):=⟨_,rfl⟩;have l5:=cj (be 1 (1 : Int).toNat ++ qG 1 g ++ be 8 e.toNat ++ be 1 sd.toNat ++ be 1 ps.length) ([],false);rw [List.length_append,List.length_append,List.length_append,List.length_append,aW,aW,aW,aW,fJ,← GA] at l5;simp only [List.length_nil] at l5;rw [← GA] at h5;clear h1 h2 h3 h4 l2 l3 l4 h0;refine jR hK ?_;clear hK K;refine wK fun K hK=>?_;refine jA ?_;refine ag ?_;refine aH (fun E s8=>∃ i : Nat,i≤ps.length∧E 34 = .v (.int .i64 i)∧E 33 = .v (.int .i64 ps.length)∧E 32 = .sl 5 ps.length Z .any∧E 4 = .ptr p 0∧E 1 = .cX [.sl 1 g.length (g.map aw) .any,.v (.int .i64 e),.v (.int .i64 sd),.sl 5 ps.length Z .any,.v (.bool hp),.v (.int .u64 pk),.sl 1 pp.length (pp.map aw) .any,.sl 2 dk.length X .any,.sl 1 cf.length (cf.map aw) .any,.sl 1 mb.length (mb.map aw) .any]∧fu s1 s8 p (cy (bS aF.text (ps.take i)) Om))
   (fun E _=>match E 34 with | .v (.int _ i)=>ps.length - i.toNat | _=>0) ?_ ?_
  ·exact ⟨0,Nat.zero_le _,rfl,rfl,rfl,rfl,rfl,by simpa [bS,tg] using h5⟩
  ·clear h5;rintro E1 s8 ⟨i,hi,g8,g7,g6,g4,g1,h⟩ -
   by_cases aO : i < ps.length
   ·refine jB (Ai @g8 (Ai @g7 (Ai @af (decide_eq_true aO)))) ?_;refine wK fun K3 bB=>?_;refine jE ?_;refine ad ?_;refine bB _ _ ?_;clear bB K3;refine wK fun K3 bB=>?_;refine ag ?_;have bN:=fU i aO;have bK : (0 : Int)≤(i : Int):=(by omega);have K9:=j8 aF.text aO;have HM:=qH i;have lst:=cj (bS aF.text (ps.take i)) Om;obtain ⟨y,hy⟩ : ∃ y,y = ps[i]:=⟨_,rfl⟩;rw [← hy] at bN K9;have zF : y ∈ ps:=(by rw [hy]; exact List.getElem_mem aO);have il:=fun s=>yo (Γ:=Γ) s1 s p (cy (bS aF.text (ps.take i)) Om) y (w1 y zF) (r1 y zF) (by omega);clear hy;obtain ⟨pk1,pk2,pk3,pk4,pk5⟩:=y;unfold aF.cells at bN il;refine az 6 (by simp [bP]) ?_;intro K2 aX;refine jN (Ai @g8 (Ai @g6 (Ai @af (Ai @aO (Ai @bK @bN))))) ?_;intro o ho;refine aX _ _ o _ rfl ho ?_;clear aX K2 ho;refine jU @g4 fun K hK=>?_;refine ae (il _ h) ?_;rintro r s9 ⟨rfl,h9⟩;rw [bA,← K9] at h9;refine jR hK ?_;clear hK K;simp only [aq,av,if_true,if_false];refine bB _ _ ?_;clear bB K3;refine jD (Ai @g8 (eH i (by omega))) ?_;refine ⟨⟨i + 1,by omega,rfl,g7,g6,g4,g1,h9⟩,?_⟩;simp only [g8,aG,↓reduceIte];omega
   ·refine jB (Ai @g8 (Ai @g7 (Ai @af (decide_eq_false aO)))) ?_;refine wK fun K3 bB=>?_;refine jF ?_;refine aB ?_;simp only [av,aq,if_true];refine hK _ _ ?_;clear hK K bB K3;have HM:=qH ps.length;have lst:=cj (bS aF.text (ps.take ps.length)) Om;rw [List.take_of_length_le (by omega)] at h;rw [List.take_of_length_le (by omega)] at HM lst;refine jS (Ai @g4 @g1) fun K hK=>?_;refine ae (KN hp _) ?_;rintro r s9 ⟨rfl,rfl⟩;refine jM ?_;refine ae (cD s1 _ p _ _ (by split <;> omega) (by omega) h) ?_;rintro r Cs ⟨rfl,Qt⟩;rw [lV (by split <;> omega) (by split <;> omega),bA] at Qt;refine jR hK ?_;clear hK K;refine wK fun K hK=>?_;cases hp with
    | false =>
     have gC : cy (bS aF.text ps ++ be 1 (if false = true then (1 : Int) else 0).toNat) Om = (C,false):=by
      rw [GA,bA,SQ];simp [cy]
     rw [gC] at Qt;refine jB @g1 ?_;refine jF ?_;refine ad ?_;refine hK _ _ ?_;clear hK K;refine jS @g4 fun K hK=>?_;refine ae (mI s1 Cs p _ (by simp only; omega) Qt) ?_;rintro r Oc ⟨rfl,rfl⟩;refine jR hK ?_;clear hK K;refine jI ?_;exact ⟨_,s1,AV.aL.refl _,Qt.le,rfl,rfl⟩
    | true =>
     have l10:=cj (bS aF.text ps ++ be 1 (if true = true then (1 : Int) else 0).toNat) Om;rw [List.length_append,aW] at l10;have Rl:=yp (Γ:=Γ) s1 Cs p _ pa2 w2 (kG rfl) (by omega) Qt;rw [ND] at Rl;have gC : cy pa2.text (cy (bS aF.text ps ++ be 1 (if true = true then (1 : Int) else 0).toNat) Om) = (C,false):=by
      rw [GA,bA,bA,SQ];simp [cy]
     rw [gC] at Rl;refine jB @g1 ?_;refine jE ?_;refine jU (Ai @g4 @g1) fun K hK=>?_;refine ae Rl ?_;rintro r Oc ⟨rfl,Yk⟩;refine jR hK ?_;clear hK K;simp only [av];refine hK _ _ ?_;clear hK K;refine jS @g4 fun K hK=>?_;refine ae (mI s1 Oc p _ (by simp only; omega) Yk) ?_;rintro r s12 ⟨rfl,rfl⟩;refine jR hK ?_;clear hK K;refine jI ?_;exact ⟨_,s1,AV.aL.refl _,Yk.le,rfl,rfl⟩
 ·rw [show aI.contents c = [] from if_neg hr];rw [decide_eq_false hr] at rW ⊢;obtain ⟨g,e,sd,ps,hp,⟨pk,pp,dk⟩,cf,mb⟩:=c;unfold aI.cells at rW ⊢;refine az 1 (by simp [bP]) ?_;intro K hK;refine jM ?_;intro o ho;refine hK _ _ o _ rfl ho ?_;clear hK K ho;refine wK fun K hK=>?_;refine jK (rW _) ?_;rintro s1 rfl;refine jE ?_;refine jA ?_;refine jI ?_;exact ⟨_,_,AV.gb AV.aP (AV.aL.refl _),AS.le.refl _,rfl,rfl⟩
def N0 : List UInt8:=List.replicate 32 0
def c0 : aI:=⟨[103],0,0,[],false,⟨0,[],[]⟩,N0,N0⟩
theorem xz {a b : Nat} (h : a≠b) : ((a : Int) != (b : Int)) = true:=by simp only [bne_iff_ne,ne_eq]; omega
theorem pU {a b : Nat} (h : a = b) : ((a : Int) != (b : Int)) = false:=by subst h; simp
theorem zD {a b : List UInt8} (h : a≠b) : (a != b) = true∧(!a == b) = true:=⟨by simpa using h,by simpa using h⟩
theorem vX {a b : List UInt8} (h : a = b) : (a != b) = false∧(!a == b) = false:=by subst h; simp
theorem Jw {α : Type} {a b : List α} {i : Nat} (ha : i < a.length) (hb : i < b.length) (h : a.take i = b.take i) (he : a[i] = b[i]) : a.take (i + 1) = b.take (i + 1):=by
 rw [List.take_succ_eq_append_getElem ha,List.take_succ_eq_append_getElem hb,h,he]
theorem vz {α : Type} {a b : List α} {i : Nat} (hl : a.length = b.length) (ha : ¬ i < a.length) (h : a.take i = b.take i) : a = b:=by
 rwa [List.take_of_length_le (by omega),List.take_of_length_le (by omega)] at h
theorem Ds (a b : ck) (ha : a.wf) (s : AS) : ah prog Γ 72 [.agg a.cells,.agg b.cells] s (fun r s'=>r = .v (.bool (decide (a = b)))∧s' = s):=by
 refine ab func72 rfl ntmps72 results72 (by simp) ?_;obtain ⟨k1,p1,l1⟩:=a;obtain ⟨k2,p2,l2⟩:=b;obtain ⟨_,hw,hl⟩:=ha;simp only at hw hl;unfold maxLen at hl;unfold ck.cells;simp only;have Fx:=fun i (h : i < l1.length)=>dB (c:=bk.cells) (k:=2) (fun _=>rfl) h;have uL:=fun i (h : i < l2.length)=>dB (c:=bk.cells) (k:=2) (fun _=>rfl) h;generalize au bk.cells l1 = X1 at *
 generalize au bk.cells l2 = X2 at *
 refine bY 2 3 (by decide) (by decide) (by decide) ?_;intro K hK;refine jM ?_;intro o1 h1 o2 h2;refine hK _ _ o1 o2 _ _ rfl rfl h1 (by rw [AS.cQ]; exact h2) ?_;clear hK K h1 h2;refine wK fun K hK=>?_;by_cases hh : k1 = k2∧p1 = p2∧l1.length = l2.length
 ·obtain ⟨rfl,rfl,hll⟩:=hh;refine jB (Ai (pU (show k1 = k1 from rfl)) (Ai (vX (show p1 = p1 from rfl)) (pU hll))) ?_;refine jF ?_;refine ad ?_;refine hK _ _ ?_;clear hK K;refine wK fun K hK=>?_;refine jA ?_;refine ag ?_;refine aH (fun E s1=>∃ i : Nat,i≤l1.length∧E 5 = .v (.int .i64 i)∧E 2 = .cX [.v (.int .u64 k1),.sl 1 p1.length (p1.map aw) .any,.sl 2 l1.length X1 .any]∧E 3 = .cX [.v (.int .u64 k1),.sl 1 p1.length (p1.map aw) .any,.sl 2 l2.length X2 .any]∧l1.take i = l2.take i∧s1 = s)
   (fun E _=>match E 5 with | .v (.int _ i)=>l1.length - i.toNat | _=>0) ?_ ?_
  ·exact ⟨0,Nat.zero_le _,rfl,rfl,rfl,by simp,rfl⟩
  ·rintro E1 s1 ⟨i,hi,g5,g2,g3,bT,rfl⟩ -
   refine wK fun K2 aX=>?_;by_cases aO : i < l1.length
   ·refine jB (Ai @g5 (Ai @g2 (Ai @af (decide_eq_true aO)))) ?_;refine jE ?_;refine ad ?_;refine aX _ _ ?_;clear aX K2;refine wK fun K3 bB=>?_;refine ag ?_;have ik : i < l2.length:=(by omega);have F7:=Fx i aO;have vd:=uL i ik;have bK : (0 : Int)≤(i : Int):=(by omega);have pF : l1[i] = l2[i]→l1.take (i + 1) = l2.take (i + 1):=Jw aO ik bT;have mZ : l1[i]≠l2[i]→decide ((⟨k1,p1,l1⟩ : ck) = ⟨k1,p1,l2⟩) = false:=fun h=>decide_eq_false fun q=>h (by simp only [ck.mk.injEq,true_and] at q; subst q; rfl);have hsw:=hw l1[i] (List.getElem_mem aO);generalize l1[i] = y1 at *
    generalize l2[i] = y2 at *
    obtain ⟨f1,t1⟩:=y1;obtain ⟨f2,t2⟩:=y2;obtain ⟨_,_,tT⟩:=hsw;simp only at tT;unfold maxLen at tT;unfold bk.cells at F7 vd;simp only at F7 vd;have xdf:=fun i (h : i < t1.length)=>dB (c:=bQ.cells) (k:=2) (fun _=>rfl) h;have xdg:=fun i (h : i < t2.length)=>dB (c:=bQ.cells) (k:=2) (fun _=>rfl) h;generalize au bQ.cells t1 = T1 at *
    generalize au bQ.cells t2 = T2 at *
    refine Dk T.mixed 6 7 [10,11,12,13] [] [] [10,11] (by kernel_rfl) (by decide) (by decide) (by decide) ?_;intro K hK;simp only [↓uC,↓qB,↓oD,oC,mr,mw,kE,lD,cw,DX,Nat.reduceBEq,List.toList_toArray,List.map_cons,List.map_nil,aN,↓DN,Qa,Qb,Qc,Qd,Qe,Qf,Qg,Qh,reduceCtorEq,↓reduceIte,Na,Nb,Nc,Nk,Nf,Ng,Nh,Za,Zb,Zc,TT,g5,g2,g3,af,aO,ik,bK,F7,vd];intro o1 xe o2 BX;have dz : o1≠o2:=(by rintro rfl; simp at BX);have vG:=dz.symm;simp only [dz,vG,if_true,if_false,↓reduceIte,List.set_cons_zero,List.set_cons_succ,List.length_cons,List.length_nil,Nat.reduceAdd,Nat.le_refl,true_and];rw [Fj dz];refine hK _ _ o1 o2 _ _ rfl rfl xe (by rw [AS.aR _ vG]; simpa [vG] using BX) ?_;clear hK K xe BX dz vG;refine wK fun K hK=>?_;by_cases hh2 : f1 = f2∧t1.length = t2.length
    ·obtain ⟨rfl,TH⟩:=hh2;refine jB (Ai (pU (show f1 = f1 from rfl)) (pU TH)) ?_;refine jF ?_;refine ad ?_;refine hK _ _ ?_;clear hK K;refine jA ?_;refine ag ?_;refine aH (fun E s2=>∃ j : Nat,j≤t1.length∧E 8 = .v (.int .i64 j)∧E 6 = .cX [.v (.int .u64 f1),.sl 2 t1.length T1 .any]∧E 7 = .cX [.v (.int .u64 f1),.sl 2 t2.length T2 .any]∧t1.take j = t2.take j∧E 5 = .v (.int .i64 i)∧E 2 = .cX [.v (.int .u64 k1),.sl 1 p1.length (p1.map aw) .any,.sl 2 l1.length X1 .any]∧E 3 = .cX [.v (.int .u64 k1),.sl 1 p1.length (p1.map aw) .any,.sl 2 l2.length X2 .any]∧s2 = s1)
      (fun E _=>match E 8 with | .v (.int _ i)=>t1.length - i.toNat | _=>0) ?_ ?_
     ·exact ⟨0,Nat.zero_le _,rfl,rfl,rfl,by simp,g5,g2,g3,rfl⟩
     ·have G5:=g5;clear g5 g2 g3;rintro E2 s2 ⟨j,hj,g8,g6,g7,RR,g5,g2,g3,rfl⟩ -
      refine wK fun K2 aX=>?_;by_cases gh : j < t1.length
      ·refine jB (Ai @g8 (Ai @g6 (Ai @af (decide_eq_true gh)))) ?_;refine jE ?_;refine ad ?_;refine aX _ _ ?_;clear aX K2;refine wK fun K4 fS=>?_;refine ag ?_;have ZU : j < t2.length:=(by omega);have N1:=xdf j gh;have N2:=xdg j ZU;have Pj : (0 : Int)≤(j : Int):=(by omega);have ZV : t1[j] = t2[j]→t1.take (j + 1) = t2.take (j + 1):=Jw gh ZU RR;have ZW : t1[j]≠t2[j]→decide ((⟨k1,p1,l1⟩ : ck) = ⟨k1,p1,l2⟩) = false:=fun h=>mZ fun q=>h (by simp only [bk.mk.injEq,true_and] at q; subst q; rfl);generalize t1[j] = z1 at *
       generalize t2[j] = z2 at *
       obtain ⟨u1,v1⟩:=z1;obtain ⟨u2,v2⟩:=z2;unfold bQ.cells at N1 N2;simp only at N1 N2;by_cases hu : u1 = u2
       ·subst hu;by_cases hv : v1 = v2
        ·subst hv;refine aZ T.mixed [] (by kernel_rfl) ?_;intro K hK;simp only [↓cR,↓ct,cw,↓uC,↓qB,↓oD,oC,mr,mw,kE,lD,cw,DX,Nat.reduceBEq,List.toList_toArray,List.map_cons,List.map_nil,aN,DX,Nat.reduceBEq,↓DN,Qa,Qb,Qc,Qd,Qe,Qf,Qg,Qh,reduceCtorEq,↓reduceIte,Na,Nb,Nc,Nk,Nf,Ng,Nh,Za,Zb,Zc,TT,g8,g6,g7,af,gh,ZU,Pj,N1,N2,pU (show u1 = u1 from rfl),vX (show v1 = v1 from rfl)];refine hK _ _ ?_;clear hK K;refine jF ?_;refine ad ?_;simp only [aq,av,if_true,if_false];refine fS _ _ ?_;clear fS K4;refine jD (Ai @g8 (aQ j (by omega))) ?_;refine ⟨⟨j + 1,by omega,rfl,g6,g7,ZV rfl,g5,g2,g3,rfl⟩,?_⟩;simp only [g8,aG,↓reduceIte];omega
        ·refine aZ T.mixed [] (by kernel_rfl) ?_;intro K hK;simp only [↓cR,↓ct,cw,↓uC,↓qB,↓oD,oC,mr,mw,kE,lD,cw,DX,Nat.reduceBEq,List.toList_toArray,List.map_cons,List.map_nil,aN,DX,Nat.reduceBEq,↓DN,Qa,Qb,Qc,Qd,Qe,Qf,Qg,Qh,reduceCtorEq,↓reduceIte,Na,Nb,Nc,Nk,Nf,Ng,Nh,Za,Zb,Zc,TT,g8,g6,g7,af,gh,ZU,Pj,N1,N2,pU (show u1 = u1 from rfl),zD hv];refine hK _ _ ?_;clear hK K;refine jE ?_;refine jA ?_;refine jI ?_;exact jW ⟨by rw [ZW fun q=>hv (by simpa using q)],rfl⟩
       ·refine aZ T.mixed [] (by kernel_rfl) ?_;intro K hK;simp only [↓cR,↓ct,cw,↓uC,↓qB,↓oD,oC,mr,mw,kE,lD,cw,DX,Nat.reduceBEq,List.toList_toArray,List.map_cons,List.map_nil,aN,DX,Nat.reduceBEq,↓DN,Qa,Qb,Qc,Qd,Qe,Qf,Qg,Qh,reduceCtorEq,↓reduceIte,Na,Nb,Nc,Nk,Nf,Ng,Nh,Za,Zb,Zc,TT,g8,g6,g7,af,gh,ZU,Pj,N1,N2,xz hu];refine hK _ _ ?_;clear hK K;refine jE ?_;refine jA ?_;refine jI ?_;exact jW ⟨by rw [ZW fun q=>hu (by simp only [bQ.mk.injEq] at q; exact q.1)],rfl⟩
      ·refine jB (Ai @g8 (Ai @g6 (Ai @af (decide_eq_false gh)))) ?_;refine jF ?_;refine aB ?_;simp only [av,aq,if_true,if_false];refine bB _ _ ?_;clear bB aX K2 K3;refine jD (Ai @g5 (aQ i (by omega))) ?_;refine ⟨⟨i + 1,by omega,rfl,g2,g3,pF (by rw [vz TH gh RR]),rfl⟩,?_⟩;simp only [G5,aG,↓reduceIte];omega
    ·have ZX : (⟨f1,t1⟩ : bk)≠⟨f2,t2⟩:=fun q=>hh2 (by simp only [bk.mk.injEq] at q; exact ⟨q.1,by rw [q.2]⟩);by_cases hf : f1 = f2
     ·have TH : t1.length≠t2.length:=fun q=>hh2 ⟨hf,q⟩;refine jB (Ai (pU hf) (xz TH)) ?_;refine jE ?_;refine jA ?_;refine jI ?_;exact jW ⟨by rw [mZ ZX],rfl⟩
     ·refine jB (xz hf) ?_;refine jE ?_;refine jA ?_;refine jI ?_;exact jW ⟨by rw [mZ ZX],rfl⟩
   ·refine jB (Ai @g5 (Ai @g2 (Ai @af (decide_eq_false aO)))) ?_;refine jF ?_;refine aB ?_;simp only [av,aq,if_true];refine hK _ _ ?_;clear hK K aX K2;refine jA ?_;refine jI ?_;exact jW ⟨by rw [decide_eq_true (by rw [vz hll aO bT])],rfl⟩
 ·have tO : decide ((⟨k1,p1,l1⟩ : ck) = ⟨k2,p2,l2⟩) = false:=decide_eq_false fun q=>hh (by simp only [ck.mk.injEq] at q; exact ⟨q.1,q.2.1,by rw [q.2.2]⟩);rw [tO] at hK ⊢;clear tO;by_cases q1 : k1 = k2
  ·by_cases q2 : p1 = p2
   ·have q3 : l1.length≠l2.length:=fun q=>hh ⟨q1,q2,q⟩;refine jB (Ai (pU q1) (Ai (vX q2) (xz q3))) ?_;refine jE ?_;refine jA ?_;exact jJ
   ·refine jB (Ai (pU q1) (zD q2)) ?_;refine jE ?_;refine jA ?_;exact jJ
  ·refine jB (xz q1) ?_;refine jE ?_;refine jA ?_;exact jJ
end Go.Proofs.YtcjifoccjlpapaaGreatDoor
