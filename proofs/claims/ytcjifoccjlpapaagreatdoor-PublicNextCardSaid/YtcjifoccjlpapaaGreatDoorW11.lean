/- Contracts of functions, each walked once; each theorem states its conditions. -/
import Derived.Test.YtcjifoccjlpapaaGreatDoorW3
import Derived.Sort.EveryDepth
import Derived.Shelf.Sort.AssemblyIn
import Derived.Lib.RowBridge
import Derived.Test.YtcjifoccjlpapaaGreatDoorW10
import Derived.Test.YtcjifoccjlpapaaGreatDoorAMp6
import Derived.Test.YtcjifoccjlpapaaGreatDoorW1
import Derived.Test.YtcjifoccjlpapaaGreatDoorW4
import Derived.Test.YtcjifoccjlpapaaGreatDoorAMp7
import Derived.Test.YtcjifoccjlpapaaGreatDoorW7
import Derived.Test.YtcjifoccjlpapaaGreatDoorW5
set_option linter.unusedSimpArgs false
set_option linter.unusedVariables false
open Nat renaming reduceLT → Na, reduceLeDiff → Nb, reduceEqDiff → Nc, reduceAdd → Nk, reduceMul → Nf, reducePow → Ng, reduceSub → Nh, reduceBEq → Nz
open Int renaming reduceLT → Za, reduceLE → Zb, reduceToNat → Zc
open And renaming intro → Ai
open Go.AM renaming ashift → Qa, aconv → Qb, aindexAddr → Qc, aindex → Qd, aslice → Qe, abuiltin → Qf, awp_reg_seq → wS, awp_reg_end → wE, awp_seq_k → wK, awp_cond_k → wC
open Go.AM.AV renaming cells → Qg, one → Qh
set_option maxRecDepth 100000
set_option maxHeartbeats 8000000
namespace Go.AM
open Go Go.RowKit Go.Shelf Go.Proofs Go.Sort
variable {P : Program} {Γ : Nat→List AV} {G : Gh} {s : AS} {w : World} {N : Nat}
theorem aU.grow (h : aU Γ G s w) (os : Array Obj) : aU Γ G s (Go.Sort.grow w os):=by
  refine h.ext ?_;exact (Below.refl _ _).grown (row:=none) ⟨rfl,rfl,rfl,by simp,fun i hi _=>by simp [Go.Sort.grow,Array.getElem?_append,hi]⟩ (Nat.le_refl _) (fun i e=>by cases e)
theorem HQ {ρ : Ren} (L : Lays.n189 P ρ) {o cap : Nat} {l : List Int} {rest : List AV} (hl : l.length < 4611686018427387904) (ho : s.aJ o = some (l.map aE ++ rest)) :
    ah P Γ (ρ.f 189) [.dj o 0 1 l.length cap] s (fun r s'=>r = .v (.tuple #[])∧s' = s.set o ((l.mergeSort fun x y=>decide (x≤y)).map aE ++ rest)):=by
  intro G w vs Un hv;simp only [al] at hv;obtain ⟨u,us,rfl,hx,rfl⟩:=hv;simp only [ar] at hx;obtain ⟨b,oq,rfl,hn⟩:=hx;obtain ⟨b',vs,q1,q2,q3,q4⟩:=Un.aJ o _ ho;rw [oq] at q1;cases q1;have HR:=q2.take (l.map aE).length;rw [List.take_left] at HR;have HR:=al.uT HR;have hH : Holds (Value.int .i64) w b 0 l.toArray:=by
    intro j hj;have gh : j < l.length:=(by simpa using hj);rw [Nat.zero_add];have : vs[j]? = some (Value.int .i64 l.toArray[j]!):=by
      have h1 : (vs.take (l.map aE).length)[j]? = some (di l[j]):=(by rw [HR]; simp [gh]);rw [List.getElem?_take] at h1;split at h1
      · rw [h1]; simp [di,gh]
      · cases h1
    exact ⟨(q4 j _ this).1,(q4 j _ this).2.1⟩
  refine (calls_of_every_depth fun D=>AnyS.slices_Sort_int_in L D b 0 cap l w hH (Un.dI o b oq) hl).mono ?_;rintro e w' ⟨rfl,n,os,rfl⟩;rw [Go.Lib.putRow_eq_setCells (Value.int .i64) w b 0 l.toArray _ n hH (by simp)];have G8 : (l.mergeSort fun x y=>decide (x≤y)).length = l.length:=(by simp);generalize (l.mergeSort fun x y=>decide (x≤y)) = m at G8 ⊢;obtain ⟨_,_,f3⟩:=dK (Un.drewN n) ho oq (off:=0) (ds:=m.map aE) (us:=m.map di) (by simp; omega) (al.ints _);have ha:=eV (m.map aE) [] (l.map aE ++ rest) (by simp; omega);simp only [List.nil_append,List.length_nil,List.length_map,G8] at ha;rw [show (l.map aE ++ rest).drop l.length = rest by rw [List.drop_append_of_le_length (by simp)]; simp] at ha;rw [ha] at f3;exact ⟨G,.v (.tuple #[]),_,_,rfl,.refl G,aU.grow f3 os,by simp [ar],rfl,rfl⟩
end Go.AM
namespace Go.Proofs.YtcjifoccjlpapaaGreatDoor
open Go Go.AM Go.Proofs Tryz
variable {Γ : Nat→List AV}
def xbF : Go.Shelf.Ren:=⟨fun | 125=>231 | 128=>247 | 129=>248 | 189=>204 | 215=>237 | 216=>224 | 257=>230 | 294=>239 | 295=>240 | 296=>241 | 297=>242 | 298=>243 | 299=>244 | 300=>245 | 301=>246 | 328=>252 | 329=>253 | 330=>254 | 331=>255 | 332=>256 | 343=>257 | n=>n,fun | 28=>36 | 46=>159 | 51=>153 | 53=>27 | 131=>201 | 182=>264 | 183=>265 | 218=>272 | 222=>275 | 228=>279 | 229=>198 | n=>n,fun n=>n⟩
theorem Yh : Lays.n189 prog xbF where
  mixed:=by kernel_rfl
  f125:=(func231).trans (congrArg some (by kernel_rfl))
  f128:=(func247).trans (congrArg some (by kernel_rfl))
  f129:=(func248).trans (congrArg some (by kernel_rfl))
  f189:=(func204).trans (congrArg some (by kernel_rfl))
  f215:=(func237).trans (congrArg some (by kernel_rfl))
  f216:=(func224).trans (congrArg some (by kernel_rfl))
  f257:=(func230).trans (congrArg some (by kernel_rfl))
  f294:=(func239).trans (congrArg some (by kernel_rfl))
  f295:=(func240).trans (congrArg some (by kernel_rfl))
  f296:=(func241).trans (congrArg some (by kernel_rfl))
  f297:=(func242).trans (congrArg some (by kernel_rfl))
  f298:=(func243).trans (congrArg some (by kernel_rfl))
  f299:=(func244).trans (congrArg some (by kernel_rfl))
  f300:=(func245).trans (congrArg some (by kernel_rfl))
  f301:=(func246).trans (congrArg some (by kernel_rfl))
  f328:=(func252).trans (congrArg some (by kernel_rfl))
  f329:=(func253).trans (congrArg some (by kernel_rfl))
  f330:=(func254).trans (congrArg some (by kernel_rfl))
  f331:=(func255).trans (congrArg some (by kernel_rfl))
  f332:=(func256).trans (congrArg some (by kernel_rfl))
  f343:=(func257).trans (congrArg some (by kernel_rfl))
  t0:=underlying0
  a0:=isAgg0
  z0:=sizeOf0
  v0:=zeroValue0
  t3:=underlying3
  a3:=isAgg3
  z3:=sizeOf3
  v3:=zeroValue3
  t4:=underlying4
  a4:=isAgg4
  z4:=sizeOf4
  v4:=zeroValue4
  t5:=underlying5
  a5:=isAgg5
  z5:=sizeOf5
  v5:=zeroValue5
  t9:=underlying9
  a9:=isAgg9
  z9:=sizeOf9
  v9:=zeroValue9
  t28:=underlying36
  a28:=isAgg36
  z28:=sizeOf36
  v28:=zeroValue36
  t46:=underlying159
  a46:=isAgg159
  z46:=sizeOf159
  v46:=zeroValue159
  t51:=underlying153
  a51:=isAgg153
  z51:=sizeOf153
  v51:=zeroValue153
  t53:=underlying27
  a53:=isAgg27
  z53:=sizeOf27
  v53:=zeroValue27
  t131:=underlying201
  a131:=isAgg201
  z131:=sizeOf201
  v131:=zeroValue201
  t182:=underlying264
  a182:=isAgg264
  z182:=sizeOf264
  v182:=zeroValue264
  t183:=underlying265
  a183:=isAgg265
  z183:=sizeOf265
  v183:=zeroValue265
  t218:=underlying272
  a218:=isAgg272
  z218:=sizeOf272
  v218:=zeroValue272
  t222:=underlying275
  a222:=isAgg275
  z222:=sizeOf275
  v222:=zeroValue275
  t228:=underlying279
  a228:=isAgg279
  z228:=sizeOf279
  v228:=zeroValue279
  t229:=underlying198
  a229:=isAgg198
  z229:=sizeOf198
  v229:=zeroValue198
theorem Mp {o cap : Nat} {l : List Int} {rest : List AV} {s : AS} (hl : l.length < 4611686018427387904) (ho : s.aJ o = some (l.map aE ++ rest)) :
    ah prog Γ 204 [.dj o 0 1 l.length cap] s (fun r s'=>r = .v (.tuple #[])∧s' = s.set o ((l.mergeSort fun x y=>decide (x≤y)).map aE ++ rest)) :=
  HQ Yh hl ho
def Pm (s s' : AS) (r : AV) (l : List Int) : Prop:=jb 1 s' r l.length (l.map aE)∧(l = []→r = bL)∧(∀ o,rF r = some o→s.aJ o = none)∧s.le s'
def xbG (s : AS) (o1 : Nat) (l : List Int) (s' : AS) : Prop:=∃ x,s'.aJ o1 = some [x]∧Pm s s' x l∧rF x≠some o1
theorem ya {gf : FuncId} {dm : List AV} {l : List Int} (IQ : ai prog gf = true) (KT : xx prog Γ gf dm (l.map fun v=>[aE v])) (hl : l.length≤2 ^ 40) (s : AS) :
  ah prog Γ 229 [bL,.tN gf dm] s (fun r s'=>Pm s s' r l):=by
 refine zz func229 rfl ntmps229 results229 (by simp) ?_;unfold bL;refine ru ?_;intro K hK;refine jM ?_;intro o1 h1;refine hK _ _ ?_;clear hK K;refine sG (by decide) ?_;intro K hK;refine jR hK ?_;clear hK K;refine ⟨gf,dm,l.map fun v=>[aE v],fun i s'=>xbG s o1 (l.take i) s',by simp only [aN,aG,dE,List.getD_cons_zero,List.getD_cons_succ,Nc,↓reduceIte],IQ,KT,by simp,?_,?_,?_⟩
 ·refine ⟨bL,by simp [AS.set,bL],⟨.inl ⟨by simp,by simp,.inl rfl⟩,fun _=>rfl,by simp [bL,rF],AS.bg (AS.le.refl s) h1 _⟩,by simp [bL,rF]⟩
 ·rintro i x s1 hx ⟨b,oq,⟨eU,rT,iV,hle⟩,dz⟩;obtain ⟨v,hv,rfl⟩ : ∃ v,l[i]? = some v∧x = [aE v]:=by
   rw [List.getElem?_map] at hx;cases hh : l[i]? with
   | none=>rw [hh] at hx; cases hx
   | some v=>rw [hh] at hx; cases hx; exact ⟨v,rfl,rfl⟩
  have hi : i < l.length:=(List.getElem?_eq_some_iff.1 hv).1;have hlen : (l.take i).length = i:=(by simp; omega);have iW : b.one = true:=by
   rcases eU with ⟨_,_,rfl | rfl | rfl⟩ | ⟨_,_,_,rfl,_⟩ <;> rfl
  simp only [Bl];refine jC ?_;refine ⟨rfl,ag ?_⟩;refine xX rfl (by decide) ?_;intro ops;refine jN @oq ?_;rw [hlen] at eU;refine ⟨_,fun G a w hr=>dP (n:=i) (m:=1) (cs:=(l.take i).map aE) (ds:=[aE v]) (e:=3) (z:=[.v (.int .i64 0)]) rfl underlying36 (by simp only [↓DN,Qa,Qb,Qc,Qd,Qe,Qf,Qg,Qh,reduceCtorEq,↓reduceIte,Na,Nb,Nc,Nk,Nf,Ng,Nh,Za,Zb,Zc,TT]; try rfl) (by simp only [↓DN,Qa,Qb,Qc,Qd,Qe,Qf,Qg,Qh,reduceCtorEq,↓reduceIte,Na,Nb,Nc,Nk,Nf,Ng,Nh,Za,Zb,Zc,TT]; try rfl) (by rw [T.c3]; decide) (by rw [T.c3]; rfl) (by rw [T.c3]; simp only [↓DN,Qa,Qb,Qc,Qd,Qe,Qf,Qg,Qh,reduceCtorEq,↓reduceIte,Na,Nb,Nc,Nk,Nf,Ng,Nh,Za,Zb,Zc,TT,iE,aN,aG,Nc,↓reduceIte]; rfl) (by decide) (by rw [T.b3]; omega) (by omega) rfl (by rw [T.c3]; simpa only [aN,aG,Nc,↓reduceIte] using eU) hr.eval hr.st,?_⟩;rw [T.c3];rintro r s4 ⟨ob,cap,rest,rfl,dA,jo,lE,SV,rfl⟩;simp only [aN,aG,Nc,↓reduceIte] at SV;have SW : o1≠ob:=by
   rintro rfl;rcases SV with h | ⟨iI,rfl⟩
   ·rw [oq] at h; cases h
   ·exact dz rfl
  have qL : s.aJ ob = none:=by
   rcases SV with h | ⟨iI,rfl⟩
   ·exact AS.le_none hle h
   ·exact iV ob rfl
  have gQ : (l.take i).map aE ++ [aE v] = (l.take (i + 1)).map aE:=by
   rw [List.take_add_one,hv];simp
  rw [gQ];have I6 : (s1.set ob ((l.take (i + 1)).map aE ++ rest)).aJ o1 = some [b]:=by
   rw [AS.aR _ SW];exact oq
  refine jN @I6 ?_;refine ⟨_,AS.aj _ _ _,⟨.inr ⟨ob,cap,rest,by rw [show (l.take (i + 1)).length = i + 1 by simp; omega],?_,by simp,by rw [show (l.take (i + 1)).length = i + 1 by simp; omega]; exact lE,by rw [show (l.take (i + 1)).length = i + 1 by simp; omega]; exact dA,jo⟩,?_,?_,AS.bg (AS.bg hle qL _) h1 _⟩,?_⟩
  ·rw [AS.aR _ SW.symm,AS.aj]
  ·intro h;have:=congrArg List.length h;rw [List.length_take,List.length_nil] at this;omega
  ·intro o h;simp only [rF,Option.some.injEq] at h;rw [← h];exact qL
  ·simp only [rF,ne_eq,Option.some.injEq];exact SW.symm
 ·rintro s2 ⟨x,KQ,OH,-⟩;rw [List.length_map,List.take_length] at OH;refine jB @KQ ?_;refine jI ?_;exact ⟨_,_,AV.aL.refl _,AS.le.refl _,OH⟩
theorem Bp {gf : FuncId} {dm : List AV} {l : List Int} (IQ : ai prog gf = true) (KT : xx prog Γ gf dm (l.map fun v=>[aE v])) (hl : l.length≤2 ^ 40) (s : AS) :
  ah prog Γ 203 [.tN gf dm] s (fun r s'=>Pm s s' r l):=by
 refine ab func203 rfl ntmps203 results203 (by simp) ?_;refine jA ?_;refine jQ fun K hK=>?_;refine ae (ya IQ KT hl _) ?_;rintro r s2 h2;refine jR hK ?_;clear hK K;refine jI ?_;exact ⟨_,_,AV.aL.refl _,AS.le.refl _,h2⟩
theorem zM (s : AS) : ah prog Γ 248 [.v (.int .u64 0)] s (fun r s'=>(∃ k : Int,r = .v (.int .i64 k))∧s' = s):=by
 refine ab func248 rfl ntmps248 results248 (by simp) ?_;refine jA ?_;refine wK fun K hK=>?_;refine jA ?_;refine jF ?_;refine ad ?_;refine hK _ _ ?_;clear hK K;refine wK fun K hK=>?_;refine jA ?_;refine jF ?_;refine ad ?_;refine hK _ _ ?_;clear hK K;refine wK fun K hK=>?_;refine jA ?_;refine jF ?_;refine ad ?_;refine hK _ _ ?_;clear hK K;refine jA ?_;refine jI ?_;exact ⟨_,_,AV.aL.refl _,AS.le.refl _,⟨_,rfl⟩,rfl⟩
theorem Dx (s : AS) : ah prog Γ 231 [.v (.int .u64 0)] s (fun r s'=>(∃ k : Int,r = .v (.int .i64 k))∧s' = s):=by
 refine ab func231 rfl ntmps231 results231 (by simp) ?_;refine jA ?_;refine wK fun K hK=>?_;refine jF ?_;refine ad ?_;refine hK _ _ ?_;clear hK K;refine jQ fun K hK=>?_;refine ae (zM _) ?_;rintro r s2 ⟨⟨k,rfl⟩,rfl⟩;refine jR hK ?_;clear hK K;refine jI ?_;exact ⟨_,_,AV.aL.refl _,AS.le.refl _,⟨_,rfl⟩,rfl⟩
theorem Dy (s : AS) : ah prog Γ 239 [bL,.v (.int .i64 0),.v (.int .i64 0)] s (fun r s'=>r = .dZ []∧s' = s):=by
 refine ab func239 rfl ntmps239 results239 (by simp) ?_;refine jA ?_;refine ag ?_;refine aH (fun E s'=>E 2 = .v (.int .i64 0)∧E 6 = .v (.int .i64 1)∧s' = s) (fun _ _=>0) ⟨rfl,rfl,rfl⟩ ?_;rintro E s' ⟨e2,e6,rfl⟩ -
 refine wK fun K2 aX=>?_;refine jB (Ai @e2 @e6) ?_;refine jF ?_;refine aB ?_;simp only [av,aq,if_true];simp only [cF,bI,bM,dh,List.toList_toArray,↓bj]; try simp only [UP,DF,Nc,↓reduceIte,DT]
 exact jW ⟨rfl,rfl⟩
theorem Dz (k : Int) (s : AS) : ah prog Γ 230 [bL,.v (.int .i64 0),.v (.int .i64 0),.v (.int .i64 k)] s (fun r s'=>r = .dZ []∧s' = s):=by
 refine ab func230 rfl ntmps230 results230 (by simp) ?_;unfold bL;refine jA ?_;refine jA ?_;refine ag ?_;refine aH (fun E s'=>E 0 = .v (.slice none 0 0)∧E 1 = .v (.int .i64 0)∧E 2 = .v (.int .i64 0)∧s' = s) (fun _ _=>0) ⟨rfl,rfl,rfl,rfl⟩ ?_;rintro E s' ⟨e0,e1,e2,rfl⟩ -
 refine ag ?_;refine jB (Ai @e1 @e2) ?_;refine wK fun K2 aX=>?_;refine jB (Ai (show ed .i64 0 0 = (0 : Int) from rfl) (show (decide ((0 : Int)≤12)) = true from rfl)) ?_;refine jE ?_;refine jS (Ai @e0 (Ai @e1 @e2)) fun K hK=>?_;refine ae (Dy _) ?_;rintro r s2 ⟨rfl,rfl⟩;refine jR hK ?_;clear hK K;refine bo ?_;simp only [av,aq];simp only [cF,bI,bM,dh,List.toList_toArray,↓bj]; try simp only [UP,DF,Nc,↓reduceIte,DT]
 exact jW ⟨rfl,rfl⟩
theorem Bq (s : AS) : ah prog Γ 204 [bL] s (fun r s'=>r = .dZ []∧s' = s):=by
 refine ab func204 rfl ntmps204 results204 (by simp) ?_;unfold bL;refine jA ?_;refine jT fun K hK=>?_;refine ae (Dx _) ?_;rintro r s2 ⟨⟨k,rfl⟩,rfl⟩;refine jM ?_;refine ae (Dz k _) ?_;rintro r s3 ⟨rfl,rfl⟩;refine jR hK ?_;clear hK K;simp only [cF,bI,bM,dh,List.toList_toArray,↓bj]; try simp only [UP,DF,Nc,↓reduceIte,DT]
 exact jW ⟨rfl,rfl⟩
theorem DA {gf : FuncId} {dm : List AV} {l : List Int} (IQ : ai prog gf = true) (KT : xx prog Γ gf dm (l.map fun v=>[aE v])) (hl : l.length≤2 ^ 40) (s : AS) :
  ah prog Γ 153 [.tN gf dm] s (fun r s'=>Pm s s' r (l.mergeSort fun x y=>decide (x≤y))):=by
 refine ab func153 rfl ntmps153 results153 (by simp) ?_;refine jA ?_;refine jQ fun K hK=>?_;refine ae (Bp IQ KT hl _) ?_;rintro r s2 ⟨eU,rT,iV,hle⟩;rcases List.eq_nil_or_concat l with rfl | ⟨l',v,Ft⟩
 ·obtain rfl:=rT rfl;refine jR hK ?_;clear hK K;refine jK (Bq _) ?_;rintro s3 rfl;refine jA ?_;refine jI ?_;exact jW ⟨by simpa using eU,fun _=>rfl,iV,hle⟩
 ·have zi : 0 < l.length:=(by rw [Ft]; simp);have G8 : (l.mergeSort fun x y=>decide (x≤y)).length = l.length:=(by simp);rcases eU with ⟨h0,_,_⟩ | ⟨o,cap,rest,rfl,ho,fM,lE,xb,jo⟩
  ·omega
  ·refine jR hK ?_;clear hK K;refine jK (Mp (by omega) ho) ?_;rintro s3 rfl;refine jA ?_;refine jI ?_;have hn : s.aJ o = none:=iV o rfl;refine ⟨_,_,AV.aL.refl _,AS.le.refl _,.inr ⟨o,cap,rest,by rw [G8],AS.aj _ _ _,by simp,by rw [G8]; exact lE,by rw [G8]; exact xb,jo⟩,?_,iV,AS.bg hle hn _⟩;intro h;rw [h] at G8;simp only [List.length_nil] at G8;omega
end Go.Proofs.YtcjifoccjlpapaaGreatDoor
namespace Go.AM
open Go Go.RowKit
def kZ (n l : Nat) : List Nat:=(HE 6 n l).reverse ++ [n]
def lJ (n l : Nat) : Nat→Nat × Nat
  | 0=>(0,2 * l - 2)
  | j + 1=>let s:=lJ n l j; let qb:=(s.1 + s.2) / 2; if n < qb then (s.1,qb - 1) else (qb + 1,s.2)
theorem HS {n l : Nat} (hl : Fit l) (h : n < 2 * l - 1) {j : Nat} (hj : j < (kZ n l).length) :
    (kZ n l)[j]? = some (((lJ n l j).1 + (lJ n l j).2) / 2)∧(j + 1 = (kZ n l).length↔n = ((lJ n l j).1 + (lJ n l j).2) / 2)∧(lJ n l j).1 + (lJ n l j).2≤200:=by
  obtain ⟨m,hm,rfl⟩:=hl.pow;exact (by decide +kernel : ∀ m≤5,∀ n < 2 * 2 ^ m - 1,∀ j < (kZ n (2 ^ m)).length,(kZ n (2 ^ m))[j]? = some (((lJ n (2 ^ m) j).1 + (lJ n (2 ^ m) j).2) / 2)∧(j + 1 = (kZ n (2 ^ m)).length↔n = ((lJ n (2 ^ m) j).1 + (lJ n (2 ^ m) j).2) / 2)∧(lJ n (2 ^ m) j).1 + (lJ n (2 ^ m) j).2≤200) m hm n h j hj
theorem FA {n l : Nat} (hl : Fit l) (h : n < 2 * l - 1) : (kZ n l).length≤6∧(n≠l - 1→2≤(kZ n l).length∧(kZ n l)[(kZ n l).length - 2]? = some (pT n)):=by
  obtain ⟨m,hm,rfl⟩:=hl.pow;exact (by decide +kernel : ∀ m≤5,∀ n < 2 * 2 ^ m - 1,(kZ n (2 ^ m)).length≤6∧(n≠2 ^ m - 1→2≤(kZ n (2 ^ m)).length∧(kZ n (2 ^ m))[(kZ n (2 ^ m)).length - 2]? = some (pT n))) m hm n h
def fc (n : Nat) : Nat:=if n < pT n then pT n + hf (pT n) else pT n - hf (pT n)
theorem rG {n l : Nat} (hl : Fit l) (h : n < 2 * l - 1) (hr : n≠l - 1) : pT n < 63∧lv (pT n)≠0∧hf (pT n)≤pT n∧(n < pT n↔pT n - hf (pT n) = n)∧fc n < 2 * l - 1:=by
  obtain ⟨m,hm,rfl⟩:=hl.pow;exact ((by decide +kernel : ∀ m≤5,∀ n < 2 * 2 ^ m - 1,n = 2 ^ m - 1∨(pT n < 63∧lv (pT n)≠0∧hf (pT n)≤pT n∧(n < pT n↔pT n - hf (pT n) = n)∧fc n < 2 * 2 ^ m - 1)) m hm n h).resolve_left hr
theorem FD {u : Nat} (hu : u < 63) (h0 : lv u≠0) (hh : hf u≤u) : ie (u : Int) = some (((u - hf u : Nat) : Int),((u + hf u : Nat) : Int)):=by
  unfold ie;rw [fI hu,if_neg h0];simp only [hf] at hh ⊢;simp only [Option.some.injEq,Prod.mk.injEq];omega
theorem kI {leaf l : Nat} (hl : Fit l) (h : leaf < l) {i : Nat} (hi : i < (aD leaf l).length) : nodeAt leaf l i < 2 * l - 1∧nodeAt leaf l i≠l - 1∧pT (nodeAt leaf l i) = (aD leaf l).getD i 0:=by
  obtain ⟨m,hm,rfl⟩:=hl.pow;exact (by decide +kernel : ∀ m≤5,∀ leaf < 2 ^ m,∀ i < (aD leaf (2 ^ m)).length,nodeAt leaf (2 ^ m) i < 2 * 2 ^ m - 1∧nodeAt leaf (2 ^ m) i≠2 ^ m - 1∧pT (nodeAt leaf (2 ^ m) i) = (aD leaf (2 ^ m)).getD i 0) m hm leaf h i hi
def fK (leaf l : Nat) : List Nat:=(List.range (aD leaf l).length).map fun i=>fc (nodeAt leaf l i)
end Go.AM
namespace Go.Proofs.YtcjifoccjlpapaaGreatDoor
open Go Go.AM Go.Proofs Tryz
variable {Γ : Nat→List AV}
theorem DC (n l : Nat) (hl : Fit l) (hn : n < 2 * l - 1) (s : AS) : ah prog Γ 146 [.v (.int .i64 ((n : Nat) : Int)),.v (.int .i64 l)] s
  (fun r s'=>r = aC (bt (kZ n l)) .any∧s' = s):=by
 refine ab func146 rfl ntmps146 results146 (by simp) ?_;have Ft:=hl.le;have SC:=(FA hl hn).1;have Lq : 0 < (kZ n l).length:=(by simp [kZ]);have il:=fun (i : Nat) (h : i < (kZ n l).length)=>HS hl hn h;have Uh : lJ n l 0 = (0,2 * l - 2):=rfl;have vE : ∀ j,lJ n l (j + 1) = (if n < ((lJ n l j).1 + (lJ n l j).2) / 2 then ((lJ n l j).1,((lJ n l j).1 + (lJ n l j).2) / 2 - 1) else (((lJ n l j).1 + (lJ n l j).2) / 2 + 1,(lJ n l j).2)):=fun j=>rfl;generalize kZ n l = P at *
 generalize lJ n l = S at *
 refine jA ?_;refine jA ?_;have e0 : ed .i64 (kO .i64 2 (l : Int)) 2 = ((2 * l - 2 : Nat) : Int):=(by rw [bw l (by omega),b6 (by omega)]; omega);refine jB @e0 ?_;refine ag ?_;refine aH (fun E s2=>∃ (i : Nat) (x : AV),i < P.length∧E 6 = .v (.int .i64 ((S i).1 : Nat))∧E 7 = .v (.int .i64 ((S i).2 : Nat))∧E 0 = .v (.int .i64 ((n : Nat) : Int))∧E 5 = x∧cU 1 s s2 x i ((bt (P.take i)).map aE)∧s.le s2)
  (fun E _=>P.length + 1 - mD (E 5)) ?_ ?_
 ·refine ⟨0,_,Lq,?_,?_,rfl,rfl,cU.nil _ _ _,AS.le.refl _⟩
  ·rw [Uh]; simp only [aG,Nc,↓reduceIte]; rfl
  ·rw [Uh]; simp only [aG,Nc,↓reduceIte]
 ·rintro E1 s2 ⟨i,x,hi,g6,g7,g0,g5,hx,hle⟩ -
  refine ag ?_;obtain ⟨w1,w2,w3⟩:=il i hi;obtain ⟨qb,Mi⟩ : ∃ m,m = ((S i).1 + (S i).2) / 2:=⟨_,rfl⟩;have tj:=vE i;rw [← Mi] at w1 w2 tj;have e1 : ou .i64 (jn .i64 (((S i).1 : Nat) : Int) (((S i).2 : Nat) : Int)) 2 = (qb : Int):=by
   rw [gF (by omega),show (((S i).1 : Nat) : Int) + (((S i).2 : Nat) : Int) = (((S i).1 + (S i).2 : Nat) : Int) by omega,dR _ (by omega),Mi]
  refine jB (Ai @g6 (Ai @g7 @e1)) ?_;have gQ : bt (P.take (i + 1)) = bt (P.take i) ++ [(qb : Int)]:=by
   unfold bt;rw [List.take_succ_eq_append_getElem hi,List.map_append];rw [List.getElem?_eq_getElem hi] at w1;rw [Option.some.inj w1];rfl
  refine wK fun K3 bB=>?_;have bO : ∀ (E : Env) (s3 : AS) (x3 : AV),E 0 = .v (.int .i64 ((n : Nat) : Int))→E 6 = .v (.int .i64 ((S i).1 : Nat))→E 7 = .v (.int .i64 ((S i).2 : Nat))→E 8 = .v (.int .i64 qb)→E 5 = x3→cU 1 s s3 x3 (i + 1) ((bt (P.take (i + 1))).map aE)→s.le s3→K3 E s3:=by
   intro E s3 x3 f0 f6 f7 f8 f5 fx vY;refine bB _ _ ?_;clear bB K3;refine wK fun K4 fS=>?_;by_cases he : n = qb
   ·have KY:=w2.2 he;refine jB (Ai @f0 @f8) ?_;refine wC fun X Y hX hY=>?_;refine jP (Ai @DB (gB (show ((n : Nat) : Int) = (qb : Int) by omega))) ?_;refine hX ?_;clear hX hY X Y;rw [KY,List.take_of_length_le (Nat.le_refl _)] at fx;have hw:=fx.aL;refine jB @f5 ?_;refine jI ?_;refine ⟨_,_,?_,vY,rfl,rfl⟩;have yA:=bZ P;unfold aC;rw [yA];exact hw
   ·have KY : i + 1 < P.length:=by
     have:=mt w2.1 he;omega
    refine jB (Ai @f0 @f8) ?_;refine wC fun X Y hX hY=>?_;refine jP (Ai @DB (e8 (show ¬ ((n : Nat) : Int) = (qb : Int) by omega))) ?_;refine hY ?_;clear hX hY X Y;refine ad ?_;refine fS _ _ ?_;clear fS K4;have m1 : mD (E1 5) = i:=by
     rw [g5];rcases hx with ⟨rfl,rfl,_⟩ | ⟨t,e,rfl,_⟩ <;> rfl
    have m2 : mD (E 5) = i + 1:=by
     rw [f5];rcases fx with ⟨rfl,h,_⟩ | ⟨t,e,rfl,_⟩
     ·omega
     ·rfl
    by_cases cN : n < qb
    ·rw [if_pos cN] at tj;have e2 : ed .i64 (qb : Int) 1 = ((qb - 1 : Nat) : Int):=(by rw [b6 (by omega)]; omega);refine jB (Ai @f0 @f8) ?_;refine wC fun X Y hX hY=>?_;refine jP (Ai @DB (Ai (eq_true (show ((n : Nat) : Int) < (qb : Int) by omega)) @not_true_eq_false)) ?_;refine hX ?_;clear hX hY X Y;refine jD (Ai @f8 @e2) ?_;refine ⟨⟨i + 1,x3,KY,?_,?_,f0,f5,fx,vY⟩,?_⟩
     ·rw [tj]; simp only [aG,f6,Nc,↓reduceIte]
     ·rw [tj]; simp only [aG,Nc,↓reduceIte]
     ·simp only [aG,Nc,↓reduceIte,m1,m2];omega
    ·rw [if_neg cN] at tj;refine jB (Ai @f0 @f8) ?_;refine wC fun X Y hX hY=>?_;refine jP (Ai @DB (Ai (eq_false (show ¬ ((n : Nat) : Int) < (qb : Int) by omega)) @not_false_eq_true)) ?_;refine hY ?_;clear hX hY X Y;refine jD (Ai @f8 (eH qb (by omega))) ?_;refine ⟨⟨i + 1,x3,KY,?_,?_,f0,f5,fx,vY⟩,?_⟩
     ·rw [tj]; simp only [aG,Nc,↓reduceIte]
     ·rw [tj]; simp only [aG,f7,Nc,↓reduceIte]
     ·simp only [aG,Nc,↓reduceIte,m1,m2];omega
  clear bB;rcases hx with ⟨rfl,lI,rV⟩ | ⟨t,e,rfl,ht,iO⟩
  ·refine wE fun K hK=>?_;simp only [↓DN,Qa,Qb,Qc,Qd,Qe,Qf,Qg,Qh,reduceCtorEq,↓reduceIte,Na,Nb,Nc,Nk,Nf,Ng,Nh,Za,Zb,Zc,TT,g5,bL,List.replicate_succ];intro t ht;refine hK _ _ (bO _ _ (.sl 1 1 [.v (.int .i64 (qb : Int))] (.own t 0)) g0 g6 g7 rfl rfl ?_ ?_)
   ·refine .inr ⟨t,0,?_,by simp [AS.cd],bd hle ht⟩;rw [gQ,List.map_append,rV];subst lI;rfl
   ·exact AS.bC hle (bd hle ht) 0
  ·refine wE fun K hK=>?_;simp only [↓DN,Qa,Qb,Qc,Qd,Qe,Qf,Qg,Qh,reduceCtorEq,↓reduceIte,Na,Nb,Nc,Nk,Nf,Ng,Nh,Za,Zb,Zc,TT,g5,ht,List.replicate_succ];have yA : (bt (P.take i)).length = i:=(by rw [bZ,List.length_take]; omega);refine ⟨by omega,by omega,hK _ _ (bO _ _ (.sl 1 (i + 1) ((bt (P.take i)).map aE ++ [.v (.int .i64 (qb : Int))]) (.own t (e + 1))) g0 g6 g7 rfl rfl ?_ ?_)⟩
   ·exact .inr ⟨t,e + 1,by rw [gQ,List.map_append]; rfl,by simp [AS.cd],iO⟩
   ·exact AS.bC hle iO (e + 1)
theorem we (n l : Nat) (hl : Fit l) (hn : n < 2 * l - 1) (hr : n≠l - 1) (s : AS) : ah prog Γ 212 [.v (.int .i64 n),.v (.int .i64 l)] s
  (fun r s'=>r = .dZ [.v (.int .i64 ((pT n : Nat) : Int)),.v (.bool true)]∧s' = s):=by
 refine ab func212 rfl ntmps212 results212 (by simp) ?_;have Ft:=hl.le;have hf : decide (th (l : Int)) = true:=decide_eq_true (mC.2 hl);have h1 : decide ((n : Int) < 0) = false:=decide_eq_false (by omega);have e2 : ed .i64 (kO .i64 2 (l : Int)) 2 = ((2 * l - 2 : Nat) : Int):=(by rw [bw l (by omega),b6 (by omega)]; omega);have h2 : decide (((2 * l - 2 : Nat) : Int) < (n : Int)) = false:=decide_eq_false (by omega);have e3 : ed .i64 (l : Int) 1 = ((l - 1 : Nat) : Int):=(by rw [b6 (by omega)]; omega);have h3 : ((n : Int) == ((l - 1 : Nat) : Int)) = false:=(by simp; omega);obtain ⟨KU,hw2⟩:=FA hl hn;obtain ⟨T9,hw4⟩:=hw2 hr;have SE:=fun s=>DC (Γ:=Γ) n l hl hn s;have Pc : (bt (kZ n l)).length = (kZ n l).length:=bZ _;have hWg : (bt (kZ n l))[(kZ n l).length - 2]? = some ((pT n : Nat) : Int):=by
  unfold bt;rw [List.getElem?_map,hw4];rfl
 generalize bt (kZ n l) = W at *
 generalize (kZ n l).length = k at *
 refine jA ?_;refine wK fun K hK=>?_;refine jQ fun K hK=>?_;refine ae (pV l _) ?_;rintro r s1 ⟨rfl,rfl⟩;rw [hf];refine jV (Ai @h1 (Ai @e2 (Ai @h2 (Ai @e3 @h3)))) hK ?_;clear hK K;refine jF ?_;refine ad ?_;refine hK _ _ ?_;clear hK K;refine jK (SE _) ?_;rintro s2 rfl;have e4 : ed .i64 (W.length : Int) 2 = ((k - 2 : Nat) : Int):=(by rw [b6 (by omega)]; omega);have cN : (((k - 2 : Nat) : Int) < (W.length : Int)):=(by omega);have h0 : (0 : Int)≤((k - 2 : Nat) : Int):=(by omega);have kF : (List.take 1 (List.drop (k - 2) (W.map aE)))[0]? = some (aE ((pT n : Nat) : Int)):=by
  simp [List.getElem?_take,hWg]
 refine jB (Ai @aC.eq_1 (Ai @e4 (Ai @cN (Ai @h0 @kF)))) ?_;exact jJ
theorem uU (n l : Nat) (hl : Fit l) (hn : n < 2 * l - 1) (hr : n≠l - 1) (s : AS) : ah prog Γ 167 [.v (.int .i64 n),.v (.int .i64 l)] s
  (fun r s'=>r = .dZ [.v (.int .i64 ((fc n : Nat) : Int)),.v (.bool true)]∧s' = s):=by
 refine ab func167 rfl ntmps167 results167 (by simp) ?_;have Ft:=hl.le;obtain ⟨u1,u2,u3,u4,u5⟩:=rG hl hn hr;have tO:=fun s=>we (Γ:=Γ) n l hl hn hr s;have Kb:=fun s=>dw (Γ:=Γ) (pT n : Int) (by omega) s;rw [FD u1 u2 u3] at Kb;unfold fc;generalize pT n = u at *
 refine jA ?_;refine jK (tO _) ?_;rintro s1 rfl;refine wK fun K hK=>?_;refine jA ?_;refine jF ?_;refine ad ?_;refine hK _ _ ?_;clear hK K;refine jK (Kb _) ?_;rintro s2 rfl;refine wK fun K hK=>?_;by_cases h : n < u
 ·have h':=u4.1 h;have e : (((u - hf u : Nat) : Int) == (n : Int)) = true:=(by simp; omega);refine jB @e ?_;refine jE ?_;refine jA ?_;rw [if_pos h];exact jJ
 ·have h':=mt u4.2 h;have e : (((u - hf u : Nat) : Int) == (n : Int)) = false:=(by simp; omega);refine jB @e ?_;refine jF ?_;refine ad ?_;refine hK _ _ ?_;clear hK K;refine jA ?_;rw [if_neg h];exact jJ
theorem zO (hG : Γ 3 = eW.map nj) (n l : Nat) (hl : Fit l) (hn : n < 2 * l - 1) (hr : n≠l - 1) (s : AS) : ah prog Γ 150 [.v (.int .i64 n),.v (.int .i64 l)] s
  (fun r s'=>r = .dZ [.v (.int .i64 ((fc n : Nat) : Int)),.v (.bool true)]∧s' = s):=by
 refine ab func150 rfl ntmps150 results150 (by simp) ?_;have Ft:=hl.le;obtain ⟨u1,u2,u3,u4,u5⟩:=rG hl hn hr;have tO:=fun s=>n8 (Γ:=Γ) hG n l hl hn s;rw [show ti n l = some (pT n) from if_neg hr] at tO;simp only [Option.getD_some,Option.isSome_some] at tO;have rW:=fun s=>nZ (Γ:=Γ) hG (pT n : Int) (by omega) s;have hle:=fun s=>jc (Γ:=Γ) hG (pT n : Int) (by omega) s;rw [FD u1 u2 u3] at rW hle;unfold fc;generalize pT n = u at *
 refine jA ?_;refine jK (tO _) ?_;rintro s1 rfl;refine wK fun K hK=>?_;refine jA ?_;refine jF ?_;refine ad ?_;refine hK _ _ ?_;clear hK K;refine wK fun K hK=>?_;by_cases h : n < u
 ·refine jB (decide_eq_true (show ((n : Nat) : Int) < (u : Int) by omega)) ?_;refine jE ?_;refine jK (rW _) ?_;rintro s2 rfl;rw [if_pos h];exact jJ
 ·refine jB (decide_eq_false (show ¬ ((n : Nat) : Int) < (u : Int) by omega)) ?_;refine jF ?_;refine ad ?_;refine hK _ _ ?_;clear hK K;refine jK (hle _) ?_;rintro s2 rfl;rw [if_neg h];exact jJ
def je (x i : Int) : Bool:=decide ((kY x).1≤i∧i≤(kY x).2)
theorem Br (hG : Γ 3 = eW.map nj) (x i : Int) (s : AS) : ah prog Γ 155 [.v (.int .i64 x),.v (.int .i64 i)] s (fun r s'=>r = .v (.bool (je x i))∧s' = s):=by
 refine ab func155 rfl ntmps155 results155 (by simp) ?_;have hu:=fun s=>sI (Γ:=Γ) hG x s;unfold je;generalize kY x = U at *
 refine jA ?_;refine jK (hu _) ?_;rintro s1 rfl;by_cases h : U.1≤i
 ·refine jB (decide_eq_true h) ?_;refine jI ?_;exact jW ⟨by simp [h],rfl⟩
 ·refine jB (decide_eq_false h) ?_;refine jI ?_;exact jW ⟨by simp [h],rfl⟩
theorem wg (x i : Int) (s : AS) : ah prog Γ 168 [.v (.int .i64 x),.v (.int .i64 i)] s (fun r s'=>r = .v (.bool (je x i))∧s' = s):=by
 refine ab func168 rfl ntmps168 results168 (by simp) ?_;have hu:=fun s=>oG (Γ:=Γ) x s;unfold je;generalize kY x = U at *
 refine jA ?_;refine jK (hu _) ?_;rintro s1 rfl;by_cases h : U.1≤i
 ·refine jB (decide_eq_true h) ?_;refine jI ?_;exact jW ⟨by simp [h],rfl⟩
 ·refine jB (decide_eq_false h) ?_;refine jI ?_;exact jW ⟨by simp [h],rfl⟩
theorem qM (t : List aa) (ht : t.length≤2 ^ 61) (i : Int) (s : AS) : ah prog Γ 148 [ax t,.v (.int .i64 i)] s (fun r s'=>r = .v (.bool (decide (c7 t i)))∧s' = s):=by
 refine ab func148 rfl ntmps148 results148 (by simp) ?_;unfold ax;have e0 : ou .i64 (t.length : Int) 2 = ((t.length / 2 : Nat) : Int):=dR _ (by omega);refine jA ?_;by_cases h0 : 0≤i
 ·obtain ⟨n,rfl⟩:=Int.eq_ofNat_of_zero_le h0;by_cases h1 : n≤t.length / 2
  ·by_cases h2 : 2 * n < t.length
   ·have bN:=cT h2;have hk : decide (c7 t (n : Int)) = ((nd t (2 * n)).kind == 1):=by
     rw [Bool.eq_iff_iff,decide_eq_true_iff,beq_iff_eq];unfold c7;rw [Int.toNat_natCast];exact ⟨fun k=>k.2.2,fun k=>⟨h0,by omega,k⟩⟩
    generalize nd t (2 * n) = N at *
    generalize au aa.cells t = X at *
    obtain ⟨k,nm,y,pa,u⟩:=N;unfold aa.cells at bN;have bK : (0 : Int)≤((2 * n : Nat) : Int):=(by omega);refine jB (Ai @lG (Ai (decide_eq_true h0) (Ai @e0 (Ai (decide_eq_true (show ((n : Nat) : Int)≤((t.length / 2 : Nat) : Int) by omega)) (Ai (bw n (by omega)) (Ai @af (Ai @h2 (Ai @bK (Ai @bN (decide_eq_true h2)))))))))) ?_;refine jI ?_;rw [hk];exact jW ⟨rfl,rfl⟩
   ·have hk : decide (c7 t (n : Int)) = false:=decide_eq_false fun k=>h2 (by have:=k.2.1; omega);refine jB (Ai @lG (Ai (decide_eq_true h0) (Ai @e0 (Ai (decide_eq_true (show ((n : Nat) : Int)≤((t.length / 2 : Nat) : Int) by omega)) (Ai (bw n (by omega)) (Ai @af (decide_eq_false h2))))))) ?_;refine jI ?_;rw [hk];exact jW ⟨rfl,rfl⟩
  ·have hk : decide (c7 t (n : Int)) = false:=decide_eq_false fun k=>h1 (by have:=k.2.1; omega);refine jB (Ai @lG (Ai (decide_eq_true h0) (Ai @e0 (decide_eq_false (show ¬ ((n : Nat) : Int)≤((t.length / 2 : Nat) : Int) by omega))))) ?_;refine jI ?_;rw [hk];exact jW ⟨rfl,rfl⟩
 ·have hk : decide (c7 t i) = false:=decide_eq_false fun k=>h0 k.1;refine jB (Ai @lG (decide_eq_false h0)) ?_;refine jI ?_;rw [hk];exact jW ⟨rfl,rfl⟩
def pD (t : List aa) (i : Int) : Int:=if aA t then (if c7 t i then 0 else 43) else 40
theorem FG (hG : Γ 3 = eW.map nj) (t : List aa) (ht : cV t) (i : Int) (s : AS) : ah prog Γ 84 [ax t,.v (.int .i64 i)] s (fun r s'=>r = .v (.int .i64 (pD t i))∧s' = s):=by
 refine ab func84 rfl ntmps84 results84 (by simp) ?_;have hr:=fun s=>cW (Γ:=Γ) hG t ht s;have hm:=fun s=>qM (Γ:=Γ) t ht.1 i s;unfold ax at *
 obtain ⟨V,hV⟩ : ∃ V,V = pD t i:=⟨_,rfl⟩;rw [← hV];unfold pD at hV;generalize au aa.cells t = X at *
 refine jA ?_;refine wK fun K hK=>?_;refine ag ?_;refine jQ fun K hK=>?_;refine ae (hr _) ?_;rintro r s1 ⟨rfl,rfl⟩;by_cases h : aA t
 ·rw [if_pos h] at hV;rw [decide_eq_true h];refine jR hK ?_;clear hK K;refine jF ?_;refine jQ fun K hK=>?_;refine ae (hm _) ?_;rintro r s2 ⟨rfl,rfl⟩;by_cases h2 : c7 t i
  ·rw [if_pos h2] at hV;rw [decide_eq_true h2];refine jR hK ?_;clear hK K;refine jF ?_;refine ad ?_;simp only [av,aq];refine hK _ _ ?_;clear hK K;refine jA ?_;refine jI ?_;exact jW ⟨by rw [hV],rfl⟩
  ·rw [if_neg h2] at hV;rw [decide_eq_false h2];refine jR hK ?_;clear hK K;refine jE ?_;refine jA ?_;refine jI ?_;exact jW ⟨by rw [hV],rfl⟩
 ·rw [if_neg h] at hV;rw [decide_eq_false h];refine jR hK ?_;clear hK K;refine jE ?_;refine jA ?_;refine jI ?_;exact jW ⟨by rw [hV],rfl⟩
theorem zP (t : List aa) (ht : cV t) (i : Int) (s : AS) : ah prog Γ 102 [ax t,.v (.int .i64 i)] s (fun r s'=>r = .v (.int .i64 (pD t i))∧s' = s):=by
 refine ab func102 rfl ntmps102 results102 (by simp) ?_;have hr:=fun s=>cK (Γ:=Γ) t ht s;have hm:=fun s=>cn (Γ:=Γ) t ht.1 i s;unfold ax at *
 obtain ⟨V,hV⟩ : ∃ V,V = pD t i:=⟨_,rfl⟩;rw [← hV];unfold pD at hV;generalize au aa.cells t = X at *
 refine jA ?_;refine wK fun K hK=>?_;refine jQ fun K hK=>?_;refine ae (hr _) ?_;rintro r s1 ⟨rfl,rfl⟩;by_cases h : aA t
 ·rw [if_pos h] at hV;rw [decide_eq_true h];refine jR hK ?_;clear hK K;refine jF ?_;refine ad ?_;refine hK _ _ ?_;clear hK K;refine wK fun K hK=>?_;refine jQ fun K hK=>?_;refine ae (hm _) ?_;rintro r s2 ⟨rfl,rfl⟩;by_cases h2 : c7 t i
  ·rw [if_pos h2] at hV;rw [decide_eq_true h2];refine jR hK ?_;clear hK K;refine jF ?_;refine ad ?_;refine hK _ _ ?_;clear hK K;refine jA ?_;refine jI ?_;exact jW ⟨by rw [hV],rfl⟩
  ·rw [if_neg h2] at hV;rw [decide_eq_false h2];refine jR hK ?_;clear hK K;refine jE ?_;refine jA ?_;refine jI ?_;exact jW ⟨by rw [hV],rfl⟩
 ·rw [if_neg h] at hV;rw [decide_eq_false h];refine jR hK ?_;clear hK K;refine jE ?_;refine jA ?_;refine jI ?_;exact jW ⟨by rw [hV],rfl⟩
theorem qN (hG : Γ 3 = eW.map nj) (leaf l : Nat) (hl : Fit l) (hn : leaf < l) (s : AS) : ah prog Γ 85 [.v (.int .i64 leaf),.v (.int .i64 l)] s
  (fun r s'=>r = aC (bt (fK leaf l)) .any∧s' = s):=by
 refine ab func85 rfl ntmps85 results85 (by simp) ?_;have Ft:=hl.le;have xd:=fk hl hn;have kG:=fun s=>lH (Γ:=Γ) hG leaf l hl hn s;have Ls:=fun (i : Nat) (h : i < (aD leaf l).length) (s : AS)=>zO (Γ:=Γ) hG (nodeAt leaf l i) l hl (kI hl hn h).1 (kI hl hn h).2.1 s;have Uj : (bt (fK leaf l)).length = (aD leaf l).length:=(by simp [bZ,fK]);have hSg : ∀ i,i < (aD leaf l).length→(bt (fK leaf l)).take (i + 1) = (bt (fK leaf l)).take i ++ [((fc (nodeAt leaf l i) : Nat) : Int)]:=by
  intro i hi;rw [List.take_succ_eq_append_getElem (by rw [Uj]; exact hi)];simp [bt,fK]
 have Mj : (bt (aD leaf l)).length = (aD leaf l).length:=bZ _;have Yi : ∀ i,i < (aD leaf l).length→(bt (aD leaf l))[i]? = some ((nodeAt leaf l (i + 1) : Nat) : Int):=by
  intro i hi;simp [bt,nodeAt,List.getD,hi]
 have hna : nodeAt leaf l 0 = 2 * leaf:=rfl;generalize bt (fK leaf l) = S at *
 generalize bt (aD leaf l) = W at *
 generalize nodeAt leaf l = D at *
 generalize (aD leaf l).length = k at *
 refine jA ?_;refine jA ?_;refine jB (bw leaf (by omega)) ?_;refine wK fun K hK=>?_;refine jQ fun K hK=>?_;refine ae (kG _) ?_;rintro r s1 ⟨rfl,rfl⟩;refine jV @aC.eq_1 hK ?_;clear hK K;refine ag ?_;refine aH (fun E s2=>∃ (i : Nat) (x : AV),i≤k∧E 15 = .sl 1 W.length (W.map aE) .any∧E 16 = .v (.int .i64 W.length)∧E 17 = .v (.int .i64 i)∧E 1 = .v (.int .i64 l)∧E 6 = .v (.int .i64 (D i : Nat))∧E 5 = x∧cU 1 s1 s2 x i ((S.take i).map aE)∧s1.le s2)
  (fun E _=>k + 1 - mD (E 5)) ?_ ?_
 ·refine ⟨0,bL,Nat.zero_le _,rfl,rfl,rfl,rfl,?_,rfl,cU.nil _ _ _,AS.le.refl _⟩;rw [hna];simp only [aG,Nc,↓reduceIte]
 ·rintro E1 s2 ⟨i,x,hi,g15,g16,g17,g1,g6,g5,hx,hle⟩ -
  by_cases aO : i < k
  ·have cN : ((i : Nat) : Int) < (W.length : Int):=(by omega);have h0 : (0 : Int)≤((i : Nat) : Int):=(by omega);have kF : (List.take 1 (List.drop i (W.map aE)))[0]? = some (AV.v (.int .i64 ((D (i + 1) : Nat) : Int))):=by
    simp [List.getElem?_take,Yi i aO,aE]
   refine jB (Ai @g16 (Ai @g17 (decide_eq_true cN))) ?_;refine wK fun K2 aX=>?_;refine jE ?_;refine ad ?_;refine aX _ _ ?_;clear aX K2;refine wK fun K3 bB=>?_;refine ag ?_;refine jB (Ai @g15 (Ai @g17 (Ai @cN (Ai @h0 @kF)))) ?_;refine jS (Ai @g6 @g1) fun K hK=>?_;refine ae (Ls i aO _) ?_;rintro r s3 ⟨rfl,rfl⟩;refine jR hK ?_;clear hK K;have gQ:=hSg i aO;refine wK fun K4 fS=>?_;have bO : ∀ (E : Env) (s3 : AS) (x3 : AV),E 15 = .sl 1 W.length (W.map aE) .any→E 16 = .v (.int .i64 W.length)→E 17 = .v (.int .i64 i)→E 1 = .v (.int .i64 l)→E 8 = .v (.int .i64 (D (i + 1) : Nat))→E 5 = x3→cU 1 s1 s3 x3 (i + 1) ((S.take (i + 1)).map aE)→s1.le s3→K4 E s3:=by
    intro E s3 x3 f15 f16 f17 f1 f8 f5 fx vY;refine fS _ _ ?_;clear fS K4;refine jD @f8 ?_;refine bB _ _ ?_;clear bB K3;refine jD (Ai @f17 (aQ i (by omega))) ?_;refine ⟨⟨i + 1,x3,aO,f15,f16,rfl,f1,rfl,f5,fx,vY⟩,?_⟩;have m1 : mD (E1 5) = i:=by
     rw [g5];rcases hx with ⟨rfl,rfl,_⟩ | ⟨t,e,rfl,_⟩ <;> rfl
    have m2 : mD (E 5) = i + 1:=by
     rw [f5];rcases fx with ⟨rfl,h,_⟩ | ⟨t,e,rfl,_⟩
     ·omega
     ·rfl
    simp only [aG,Nc,↓reduceIte,m1,m2];omega
   clear fS;rcases hx with ⟨rfl,lI,rV⟩ | ⟨t,e,rfl,ht,iO⟩
   ·refine wE fun K hK=>?_;simp only [↓DN,Qa,Qb,Qc,Qd,Qe,Qf,Qg,Qh,reduceCtorEq,↓reduceIte,Na,Nb,Nc,Nk,Nf,Ng,Nh,Za,Zb,Zc,TT,g5,bL,List.replicate_succ];intro t ht;refine hK _ _ (bO _ _ (.sl 1 1 [.v (.int .i64 ((fc (D i) : Nat) : Int))] (.own t 0)) g15 g16 g17 g1 rfl rfl ?_ ?_)
    ·refine .inr ⟨t,0,?_,by simp [AS.cd],bd hle ht⟩;rw [gQ,List.map_append,rV];subst lI;rfl
    ·exact AS.bC hle (bd hle ht) 0
   ·refine wE fun K hK=>?_;simp only [↓DN,Qa,Qb,Qc,Qd,Qe,Qf,Qg,Qh,reduceCtorEq,↓reduceIte,Na,Nb,Nc,Nk,Nf,Ng,Nh,Za,Zb,Zc,TT,g5,ht,List.replicate_succ];have yA : (S.take i).length = i:=(by rw [List.length_take]; omega);refine ⟨by omega,by omega,hK _ _ (bO _ _ (.sl 1 (i + 1) ((S.take i).map aE ++ [.v (.int .i64 ((fc (D i) : Nat) : Int))]) (.own t (e + 1))) g15 g16 g17 g1 rfl rfl ?_ ?_)⟩
    ·exact .inr ⟨t,e + 1,by rw [gQ,List.map_append]; rfl,by simp [AS.cd],iO⟩
    ·exact AS.bC hle iO (e + 1)
  ·have cN : ¬ ((i : Nat) : Int) < (W.length : Int):=(by omega);refine jB (Ai @g16 (Ai @g17 (decide_eq_false cN))) ?_;refine wK fun K2 aX=>?_;refine jF ?_;refine aB ?_;simp only [av,aq,if_true];refine hK _ _ ?_;clear hK aX K2 K;obtain rfl : i = k:=(by omega);refine jB @g5 ?_;refine jI ?_;rw [List.take_of_length_le (by omega)] at hx;refine ⟨_,_,?_,hle,rfl,rfl⟩;have:=hx.aL;unfold aC;rwa [Uj]
theorem pW (leaf l i : Nat) (hl : Fit l) (hn : leaf < l) (hi : i < (aD leaf l).length) (s : AS) : ah prog Γ 104 [.v (.int .i64 leaf),.v (.int .i64 l),.v (.int .i64 i)] s
  (fun r s'=>r = .v (.int .i64 (fc (nodeAt leaf l i) : Nat))∧s' = s):=by
 refine ab func104 rfl ntmps104 results104 (by simp) ?_;have Ft:=hl.le;have xd:=fk hl hn;have kG:=fun s=>fT (Γ:=Γ) leaf l hl hn s;have Ls:=fun (s : AS)=>uU (Γ:=Γ) (nodeAt leaf l i) l hl (kI hl hn hi).1 (kI hl hn hi).2.1 s;refine jA ?_;refine jB (bw leaf (by omega)) ?_;refine wK fun K hK=>?_;have bO : ∀ (E : Env) (s3 : AS),E 7 = .v (.int .i64 (nodeAt leaf l i : Nat))→E 1 = .v (.int .i64 l)→s3 = s→K E s3:=by
  rintro E s3 f7 f1 rfl;refine hK _ _ ?_;clear hK K;generalize nodeAt leaf l i = D at *
  refine jS (Ai @f7 @f1) fun K hK=>?_;refine ae (Ls _) ?_;rintro r s4 ⟨rfl,rfl⟩;refine jR hK ?_;clear hK K;refine jA ?_;exact jJ
 clear hK;cases i with
 | zero =>
  refine jB (show (decide ((0 : Int) < ((0 : Nat) : Int))) = false from rfl) ?_;refine jF ?_;refine ad ?_;exact bO _ _ rfl rfl rfl
 | succ j =>
  have Mj : (bt (aD leaf l)).length = (aD leaf l).length:=bZ _;have Yi : (bt (aD leaf l))[j]? = some ((nodeAt leaf l (j + 1) : Nat) : Int):=by
   simp [bt,nodeAt,List.getD,show j < (aD leaf l).length by omega]
  generalize bt (aD leaf l) = W at *
  have IU : decide ((0 : Int) < ((j + 1 : Nat) : Int)) = true:=decide_eq_true (by omega);have e1 : ed .i64 ((j + 1 : Nat) : Int) 1 = (j : Int):=(by rw [uS (by omega) (by omega)]; omega);have cN : ((j : Nat) : Int) < (W.length : Int):=(by omega);have h0 : (0 : Int)≤((j : Nat) : Int):=(by omega);have kF : (List.take 1 (List.drop j (W.map aE)))[0]? = some (AV.v (.int .i64 ((nodeAt leaf l (j + 1) : Nat) : Int))):=by
   simp [List.getElem?_take,Yi,aE]
  refine jB @IU ?_;refine jE ?_;refine jT fun K hK=>?_;refine ae (kG _) ?_;rintro r s1 ⟨rfl,rfl⟩;refine jN (Ai @aC.eq_1 (Ai @e1 (Ai @cN (Ai @h0 @kF)))) ?_;exact hK _ _ (bO _ _ rfl rfl rfl)
def oL (p : aF) : Bool:=decide (p.kind≠1)
theorem HT : ai prog 83 = true:=by kernel_rfl
theorem DD (p : aF) (s : AS) : ah prog Γ 83 [.agg p.cells] s (fun r s'=>r = .v (.bool (oL p))∧s' = s):=by
 refine ab func83 rfl ntmps83 results83 (by simp) ?_;obtain ⟨k,l,n,y,i⟩:=p;unfold aF.cells oL ak;refine az 1 (by decide) ?_;intro K hK;refine jM ?_;intro o1 h1;refine hK _ _ o1 _ rfl h1 ?_;clear hK K h1;by_cases h : k = 1
 ·have e : (k != 1) = false:=(by simp [h]);refine jB @e ?_;refine jI ?_;exact jW ⟨by simp [h],rfl⟩
 ·have e : (k != 1) = true:=(by simp [h]);refine jB @e ?_;refine jI ?_;exact jW ⟨by simp [h],rfl⟩
theorem wh (l : List aF) (hl : l.length≤2 ^ 61) (s : AS) :
  ah prog Γ 147 [.sl 5 l.length (au aF.cells l) .any,.tN 83 []] s (fun r s'=>(∃ k : Int,r = .v (.int .i64 k)∧decide (k ≥ 0) = l.any oL)∧s' = s):=by
 refine ab func147 rfl ntmps147 results147 (by simp) ?_;have fU:=fun i (h : i < l.length)=>dB (c:=aF.cells) (k:=5) (fun _=>rfl) h;have fM:=fun p s=>DD (Γ:=Γ) p s;have I7 : ∀ i,(h : i < l.length)→(l.drop i).any oL = (oL l[i] || (l.drop (i + 1)).any oL):=by
  intro i h;rw [List.drop_eq_getElem_cons h,List.any_cons]
 generalize au aF.cells l = X at *
 refine jA ?_;refine wK fun K hK=>?_;refine jA ?_;refine ag ?_;refine aH (fun E s2=>∃ i : Nat,i≤l.length∧(l.drop i).any oL = l.any oL∧E 8 = .v (.int .i64 i)∧E 7 = .v (.int .i64 l.length)∧E 0 = .sl 5 l.length X .any∧E 1 = .tN 83 []∧s2 = s)
  (fun E _=>match E 8 with | .v (.int _ i)=>l.length - i.toNat | _=>0) ?_ ?_
 ·exact ⟨0,Nat.zero_le _,rfl,rfl,rfl,rfl,rfl,rfl⟩
 ·rintro E1 s2 ⟨i,hi,hf,g8,g7,g0,g1,rfl⟩ -
  by_cases aO : i < l.length
  ·refine jB (Ai @g8 (Ai @g7 (Ai @af (decide_eq_true aO)))) ?_;refine wK fun K2 aX=>?_;refine jE ?_;refine ad ?_;refine aX _ _ ?_;clear aX K2;refine wK fun K3 bB=>?_;refine ag ?_;have bN:=fU i aO;have hd:=I7 i aO;have hc:=fM l[i] s2;generalize oL l[i] = q at hd hc;generalize l[i] = p at bN hc;have bK : (0 : Int)≤(i : Int):=(by omega);unfold aF.cells at bN hc;refine jB @g8 ?_;refine jS (Ai @g1 (Ai @g0 (Ai @af (Ai @aO (Ai @bK @bN))))) fun K hK=>?_;try refine ⟨HT,?_⟩
   refine ae hc ?_;rintro r s3 ⟨rfl,rfl⟩;cases q with
   | true =>
    refine jR hK ?_;clear hK K;refine jE ?_;refine jA ?_;refine jI ?_;refine ⟨_,_,AV.aL.refl _,AS.le.refl _,⟨_,rfl,?_⟩,rfl⟩;rw [← hf,hd];simp
   | false =>
    refine jR hK ?_;clear hK K;refine jF ?_;refine ad ?_;simp only [aq,av,if_true,if_false];refine bB _ _ ?_;clear bB K3;refine jD (Ai @g8 (aQ i (by omega))) ?_;refine ⟨⟨i + 1,by omega,by rw [← hf,hd]; rfl,rfl,g7,g0,g1,rfl⟩,?_⟩;simp only [g8,aG,↓reduceIte];omega
  ·refine jB (Ai @g8 (Ai @g7 (Ai @af (decide_eq_false aO)))) ?_;refine wK fun K2 aX=>?_;refine jF ?_;refine aB ?_;simp only [av,aq,if_true];refine hK _ _ ?_;clear hK aX K2 K;refine jA ?_;refine jI ?_;refine ⟨_,_,AV.aL.refl _,AS.le.refl _,⟨_,rfl,?_⟩,rfl⟩;rw [← hf,List.drop_of_length_le (by omega)];rfl
theorem rX (l : List aF) (hl : l.length≤2 ^ 61) (s : AS) :
  ah prog Γ 82 [.sl 5 l.length (au aF.cells l) .any,.tN 83 []] s (fun r s'=>r = .v (.bool (l.any oL))∧s' = s):=by
 refine ab func82 rfl ntmps82 results82 (by simp) ?_;have hc:=fun s=>wh (Γ:=Γ) l hl s;generalize au aF.cells l = X at *
 refine jA ?_;refine jQ fun K hK=>?_;refine ae (hc _) ?_;rintro r s2 ⟨⟨k,rfl,hk⟩,rfl⟩;refine jR hK ?_;clear hK K;refine jI ?_;exact jW ⟨by rw [← hk],rfl⟩
def wj (c : aI) : Bool:=decide (c.props.length = 0) || c.props.any oL
theorem FH (c : aI) (hw : c.props.length≤2 ^ 61) (s : AS) : ah prog Γ 35 [.agg c.cells] s (fun r s'=>r = .v (.bool (wj c))∧s' = s):=by
 refine ab func35 rfl ntmps35 results35 (by simp) ?_;have hc:=fun s=>ah.jq (.cons (.refl _) (.cons (LW _) .nil)) (rX (Γ:=Γ) c.props hw s);obtain ⟨g,e,sn,ps,hp,⟨py,Kf,dk⟩,cf,mb⟩:=c;unfold aI.cells wj;simp only at hc hw ⊢;generalize au aF.cells ps = X at *
 generalize au bk.cells dk = Y at *
 generalize ps.any oL = q at *
 unfold ak;refine az 1 (by decide) ?_;intro K hK;refine jM ?_;intro o1 h1;refine hK _ _ o1 _ rfl h1 ?_;clear hK K h1;by_cases h : ps.length = 0
 ·have e0 : ((ps.length : Int) == 0) = true:=(by rw [h]; rfl);refine jB @e0 ?_;refine jI ?_;exact jW ⟨by simp [h],rfl⟩
 ·have e0 : ((ps.length : Int) == 0) = false:=(by rw [beq_eq_false_iff_ne]; omega);refine jS @e0 fun K hK=>?_;refine ae (hc _) ?_;rintro r s2 ⟨rfl,rfl⟩;refine jR hK ?_;clear hK K;refine jI ?_;exact jW ⟨by simp [h],rfl⟩
end Go.Proofs.YtcjifoccjlpapaaGreatDoor
namespace Go.AM
theorem uV {α : Type} {c : Prop} [Decidable c] {x : α} {y : Option α} (h : (if c then some x else y) = none) : ¬ c∧y = none:=by
  split at h
  · cases h
  · exact ⟨by assumption,h⟩
def zQ (P : Int→Bool) (acc : List Int) (f : Int) : List Int:=if P f = true∧f ∉ acc then acc ++ [f] else acc
def ju (P : Int→Bool) (S : List Int) : List Int:=S.foldl (zQ P) []
def DE (P : Int→Bool) (fresh : List Int) (n : Nat) : List Int:=((List.range n).map fun k=>((k : Nat) : Int)).filter fun x=>decide (x ∈ fresh) && P x
theorem Kg (P : Int→Bool) (S : List Int) : (ju P S).length≤S.length:=by
  have : ∀ (S acc : List Int),(S.foldl (zQ P) acc).length≤acc.length + S.length:=by
    intro S;induction S with
    | nil=>simp
    | cons f S ih =>
      intro acc;rw [List.foldl_cons];have h1:=ih (zQ P acc f);have h2 : (zQ P acc f).length≤acc.length + 1:=(by unfold zQ; split <;> simp);simp only [List.length_cons];omega
  simpa [ju] using this S []
theorem HU (P : Int→Bool) (S : List Int) (f : Int) : ju P (S ++ [f]) = zQ P (ju P S) f:=by simp [ju]
theorem zR (P : Int→Bool) : ∀ (S acc : List Int),S.Pairwise (·≤·)→acc.Pairwise (· < ·)→(∀ a ∈ acc,∀ b ∈ S,a≤b) →
    (S.foldl (zQ P) acc).Pairwise (· < ·)∧∀ x,x ∈ S.foldl (zQ P) acc↔x ∈ acc∨(x ∈ S∧P x = true)
  | [],acc,_,h2,_=>by simp [h2]
  | f :: S,acc,h1,h2,h3=>by
    rw [List.pairwise_cons] at h1;rw [List.foldl_cons];by_cases hc : P f = true∧f ∉ acc
    · have e : zQ P acc f = acc ++ [f]:=if_pos hc;rw [e];obtain ⟨i1,i2⟩:=zR P S (acc ++ [f]) h1.2 (by
        rw [List.pairwise_append];refine ⟨h2,by simp,fun a ha b hb=>?_⟩;simp only [List.mem_singleton] at hb;subst hb;have:=h3 a ha b (by simp);have : a≠b:=fun e=>hc.2 (e ▸ ha);omega) (by
        intro a ha b hb;simp only [List.mem_append,List.mem_singleton] at ha;rcases ha with ha | rfl
        · exact h3 a ha b (by simp [hb])
        · exact h1.1 b hb)
      refine ⟨i1,fun x=>?_⟩;rw [i2];simp only [List.mem_append,List.mem_cons,List.not_mem_nil,or_false];constructor
      · rintro ((a | rfl) | ⟨a,b⟩)
        · exact .inl a
        · exact .inr ⟨.inl rfl,hc.1⟩
        · exact .inr ⟨.inr a,b⟩
      · rintro (a | ⟨rfl | a,b⟩)
        · exact .inl (.inl a)
        · exact .inl (.inr rfl)
        · exact .inr ⟨a,b⟩
    · have e : zQ P acc f = acc:=if_neg hc;rw [e];obtain ⟨i1,i2⟩:=zR P S acc h1.2 h2 (fun a ha b hb=>h3 a ha b (by simp [hb]));refine ⟨i1,fun x=>?_⟩;rw [i2];simp only [List.mem_cons];constructor
      · rintro (a | ⟨a,b⟩)
        · exact .inl a
        · exact .inr ⟨.inr a,b⟩
      · rintro (a | ⟨rfl | a,b⟩)
        · exact .inl a
        · by_cases hm : x ∈ acc
          · exact .inl hm
          · exact absurd ⟨b,hm⟩ hc
        · exact .inr ⟨a,b⟩
theorem Mq (P : Int→Bool) (S : List Int) (h : S.Pairwise (·≤·)) : (ju P S).Pairwise (· < ·)∧∀ x,x ∈ ju P S↔x ∈ S∧P x = true:=by
  have:=zR P S [] h (by simp) (by simp);simpa [ju] using this
theorem uW : ∀ {a b : List Int},a.Pairwise (· < ·)→b.Pairwise (· < ·)→(∀ x,x ∈ a↔x ∈ b)→a = b
  | [],b,_,_,h=>by
    cases b with
    | nil=>rfl
    | cons y b=>exact absurd ((h y).2 (by simp)) (by simp)
  | x :: a,[],_,_,h=>absurd ((h x).1 (by simp)) (by simp)
  | x :: a,y :: b,h1,h2,h=>by
    rw [List.pairwise_cons] at h1 h2;have hxy : x = y:=by
      have hx:=(h x).1 (by simp);have hy:=(h y).2 (by simp);simp only [List.mem_cons] at hx hy;rcases hx with rfl | hx
      · rfl
      · rcases hy with rfl | hy
        · rfl
        · have:=h1.1 y hy;have:=h2.1 x hx;omega
    subst hxy;rw [uW h1.2 h2.2 fun z=>?_];have:=h z;simp only [List.mem_cons] at this;constructor
    · intro hz;rcases this.1 (.inr hz) with rfl | k
      · have:=h1.1 z hz; omega
      · exact k
    · intro hz;rcases this.2 (.inr hz) with rfl | k
      · have:=h2.1 z hz; omega
      · exact k
theorem Pn (P : Int→Bool) (fresh : List Int) (n : Nat) (hP : ∀ x,P x = true→0≤x∧x < (n : Int)) : ju P (fresh.mergeSort fun x y=>decide (x≤y)) = DE P fresh n:=by
  have hs : (fresh.mergeSort fun x y=>decide (x≤y)).Pairwise (·≤·):=by
    have:=List.pairwise_mergeSort (le:=fun x y : Int=>decide (x≤y)) (by intro a b c; simp; omega) (by intro a b; simp; omega) fresh;simpa using this
  obtain ⟨h1,h2⟩:=Mq P _ hs;refine uW h1 ?_ fun x=>?_
  · unfold DE;refine List.Pairwise.filter _ ?_;rw [List.pairwise_map];exact (List.pairwise_lt_range).imp fun h=>by omega
  · rw [h2];unfold DE;simp only [List.mem_filter,List.mem_map,List.mem_range,Bool.and_eq_true,decide_eq_true_eq,List.mem_mergeSort];constructor
    · rintro ⟨a,b⟩;have:=hP x b;exact ⟨⟨x.toNat,by omega,by omega⟩,a,b⟩
    · rintro ⟨-,a,b⟩;exact ⟨a,b⟩
end Go.AM
namespace Go.Proofs.YtcjifoccjlpapaaGreatDoor
open Go Go.AM Go.Proofs Tryz
variable {Γ : Nat→List AV}
def zS (s0 s : AS) (r : AV) (T : List aa) : Prop:=∃ O cap rest,r = .dj O 0 5 T.length cap∧s.aJ O = some (au aa.cells T ++ rest)∧T.length≤cap∧s0.aJ O = none∧s0.le s
theorem DG (t : List aa) (h0 : t.length≠0) (ht : t.length≤2 ^ 30) (hw : ∀ n ∈ t,qP n) (s : AS) : ah prog Γ 27 [ax t] s (fun r s'=>zS s s' r t):=by
  refine ah.settle (ku t ht hw s) ?_;rintro r s' ⟨TS,hT,hO⟩;have hl : TS.length = t.length:=(by rw [← hT,List.length_map]);rcases hO.row with ⟨h1,_,_⟩ | ⟨O,cap,rest,rfl,hOb,fM,lE,xb,jo⟩
  · exact absurd (hl ▸ h1) h0
  · obtain ⟨s1,k1,k2,k3⟩:=Cx (Γ:=Γ) (hO.Bs O rfl) (.dj O 0 5 TS.length cap) TS [] s' hO.xs hO.le (hO.DH O rfl) (by simpa [au] using hOb);rw [List.nil_append,hT] at k2;rw [hl] at k1 xb;exact ⟨_,_,by rw [hl]; exact k1,O,cap,rest,rfl,k2,xb,hO.Bs O rfl,k3⟩
theorem Bt (l : List Int) (hl : l.length≤2 ^ 40) (s : AS) : ah prog Γ 153 [.tN 205 [.cX [.sl 1 l.length (l.map aE) .any]]] s (fun r s'=>r = aC (l.mergeSort fun x y=>decide (x≤y)) .any∧s' = s):=by
  have KT:=Dw (Γ:=Γ) (l.map aE) l.length (by simp) hl;rw [List.map_map] at KT;refine ah.forget (ah.settle (DA (by kernel_rfl) KT hl s) ?_ (R:=fun r s'=>r = aC (l.mergeSort fun x y=>decide (x≤y)) .any∧s.le s')) fun r s' ⟨h1,h2⟩=>⟨s,h2,h1,rfl⟩;rintro r s' ⟨eU,rT,iV,hle⟩;rcases eU with ⟨h0,_,_⟩ | ⟨o,cap,rest,rfl,ho,fM,lE,xb,jo⟩
  · have e : (l.mergeSort fun x y=>decide (x≤y)) = []:=List.eq_nil_of_length_eq_zero h0;rw [rT e,e];exact ⟨_,_,bf.aL AV.aP,rfl,hle⟩
  · exact ⟨_,_,bf.outer ho (by simp),rfl,AS.yr hle (iV o rfl)⟩
end Go.Proofs.YtcjifoccjlpapaaGreatDoor
namespace Go.AM
theorem Mr (P : Int→Bool) (fresh : List Int) (n : Nat) : (DE P fresh n).length≤n:=by
  unfold DE;refine Nat.le_trans (List.length_filter_le _ _) ?_;simp
theorem zT {T : List aa} {u : Nat} (hu : u < T.length) (k : Nat) (p : List UInt8) (rest : List AV) :
    ((au aa.cells T ++ rest).set (u * 5 + 2) (.v (.int .u64 k))).set (u * 5 + 3) (ak p .any) = au aa.cells (T.set u { nd T u with key:=k,parent:=p }) ++ rest:=by
  have h0:=qQ (c:=aa.cells) (k:=5) (fun n=>rfl) hu (nd T u) rest;have h1:=qQ (c:=aa.cells) (k:=5) (fun n=>rfl) hu { nd T u with key:=k,parent:=p } rest;have hs : T.set u (nd T u) = T:=(by rw [pE hu]; exact List.set_getElem_self hu);rw [hs] at h0;rw [← h1];generalize au aa.cells T ++ rest = R at h0;generalize nd T u = N at *
  obtain ⟨a,b,c,d,e⟩:=N;simp only [aa.cells,bm] at h0 ⊢;apply List.ext_getElem?;intro i;have hi:=congrArg (fun l=>l[i]?) h0;simp only [List.getElem?_set,List.length_set,Nat.add_assoc,Nat.reduceAdd] at hi ⊢;by_cases e3 : u * 5 + 3 = i
  · have e4 : ¬ u * 5 + 4 = i:=(by omega);simp only [if_pos e3,if_neg e4]
  · by_cases e2 : u * 5 + 2 = i
    · have e4 : ¬ u * 5 + 4 = i:=(by omega);simp only [if_neg e3,if_pos e2,if_neg e4]
    · simp only [if_neg e3,if_neg e2] at hi ⊢;exact hi.symm
end Go.AM
namespace Go.Proofs.YtcjifoccjlpapaaGreatDoor
open Go Go.AM Go.Proofs Tryz
variable {Γ : Nat→List AV}
def oM (n : Nat) : AV:=.v (.int .u64 n)
def xB (l : List Nat) : AV:=.sl 1 l.length (l.map oM) .any
def zU (t : List aa) (fresh : List Int) (up : Nat) : List Int:=DE (fun x=>je up x && decide (c7 t x)) fresh (aY t)
def yb (t : List aa) (leaf : Nat) (keys : List Nat) (fresh : List Int) : Nat→List aa × List UInt8
 | 0=>(t,[])
 | i + 1 =>
  let j:=(aD leaf (aY t)).length - 1 - i
  let up:=(aD leaf (aY t)).getD j 0
  let p:=yb t leaf keys fresh i
  let b : aa:=⟨2,[],keys.getD j 0,p.2,zU t fresh up⟩
  (p.1.set up b,rH b (oN t (fc (nodeAt leaf (aY t) j))))
theorem uX (t : List aa) (leaf : Nat) (keys : List Nat) (fresh : List Int) : ∀ i,(yb t leaf keys fresh i).1.length = t.length
 | 0=>rfl
 | i + 1=>by simp only [yb,List.length_set]; exact uX t leaf keys fresh i
def sK (t : List aa) (leaf key : Nat) (keys : List Nat) (fresh : List Int) : List aa :=
 let p:=yb t leaf keys fresh (aD leaf (aY t)).length
 p.1.set (2 * leaf) { nd p.1 (2 * leaf) with key:=key,parent:=p.2 }
def Yj (s : AS) (t : List aa) (leaf : Nat) (keys : List Nat) (fresh : List Int) (O cap FI HV I8 : Nat) (rest : List AV) (i : Nat) (s' : AS) : Prop :=
 s.le s'∧s'.aJ FI = some [.dj O 0 5 t.length cap]∧s'.aJ HV = some [aC (bt (fK leaf (aY t))) .any]∧s'.aJ I8 = some [ak (yb t leaf keys fresh i).2 .any]∧s'.aJ O = some (au aa.cells (yb t leaf keys fresh i).1 ++ rest)
theorem Bu (n9 : Γ 0 = gR Sha.H0) (kV : Γ 1 = Sha.K.map wV) (hG : Γ 3 = eW.map nj) (t : List aa) (ht : cV t) (J8 : t.length≤2 ^ 30) (hw : ∀ n ∈ t,qP n) (hr : aA t) (leaf : Nat) (hm : c7 t leaf)
  (key : Nat) (keys : List Nat) (hk : keys.length = (aD leaf (aY t)).length) (fresh : List Int) (hf : fresh.length≤2 ^ 40) (s : AS) :
  ah prog Γ 89 [ax t,.v (.int .i64 leaf),.v (.int .u64 key),xB keys,aC fresh .any] s (fun r s'=>zS s s' r (sK t leaf key keys fresh)):=by
 refine zz func89 rfl ntmps89 results89 (by simp) ?_;have SX : aY t≠0:=hr.1;obtain ⟨ei,tT⟩ : Fit (aY t)∧t.length = 2 * aY t - 1:=by
  rcases dx (t:=t) with h | h
  ·exact absurd h SX
  ·exact h
 have qH:=ei.le;have eX : leaf < aY t:=by
  have:=hm.2.1;omega
 have SY:=fun s=>DG (Γ:=Γ) t (by omega) J8 hw s;have jf:=fun s=>qR (Γ:=Γ) hG t ht s;rw [if_pos hr] at jf;have kG:=fun s=>lH (Γ:=Γ) hG leaf (aY t) ei eX s;have Ls:=fun s=>qN (Γ:=Γ) hG leaf (aY t) ei eX s;unfold ax xB aC at *
 refine ru ?_;intro K hK;refine jM ?_;intro o5 h5 o8 h8 o9 h9;refine hK _ _ ?_;clear hK K;refine Dm (d:=9) rfl h9 ?_;refine Dm (d:=8) rfl h8 ?_;refine Dm (d:=5) rfl h5 ?_;clear h5 h8 h9;refine ru ?_;intro K hK;refine jM ?_;refine ae (SY _) ?_;rintro r s1 ⟨O,cap,rest,rfl,hO,dA,GR,DI⟩;refine jM ?_;intro FI Yk;refine hK _ _ ?_;clear hK K;refine ru ?_;intro K hK;refine jM ?_;refine ae (jf _) ?_;rintro r s2 ⟨rfl,rfl⟩;refine jR hK ?_;clear hK K;refine ru ?_;intro K hK;refine jM ?_;refine ae (kG _) ?_;rintro r s3 ⟨rfl,rfl⟩;refine jM ?_;refine ae (Ls _) ?_;rintro r s4 ⟨rfl,rfl⟩;refine jM ?_;intro HV h14;refine hK _ _ ?_;clear hK K;refine ru ?_;intro K hK;refine jM ?_;intro I8 Uo;refine hK _ _ ?_;clear hK K;obtain ⟨Ms,h14⟩:=uV h14;obtain ⟨Mt,Uo⟩:=uV Uo;obtain ⟨I9,Uo⟩:=uV Uo;have SZ : O≠FI:=(fun e=>by rw [e,Yk] at hO; cases hO);have Yl : O≠HV:=(fun e=>by rw [e,h14] at hO; cases hO);have Po : O≠I8:=(fun e=>by rw [e,Uo] at hO; cases hO);have Ym : s.aJ FI = none:=AS.le_none DI Yk;have m14 : s.aJ HV = none:=AS.le_none DI h14;have Rp : s.aJ I8 = none:=AS.le_none DI Uo;have Mj : (bt (aD leaf (aY t))).length = (aD leaf (aY t)).length:=bZ _;have xd:=fk ei eX;refine J7 (AS.j0 (cs':=[ak [] .any]) (AS.aj _ _ _) (.cons AV.aP .nil)) ?_;rw [AS.set_set];refine sG (by decide) ?_;intro K hK;refine jM ?_;refine ae (zK _ _ _) ?_;rintro r s5 ⟨rfl,rfl⟩;refine jR hK ?_;clear hK K;refine ⟨202,_,_,fun i s'=>Yj s t leaf keys fresh O cap FI HV I8 rest i s',by simp only [aN,aG,Mj,Nc,↓reduceIte],by kernel_rfl,zL _ _ Mj (by omega),by simp,?_,?_,?_⟩
 ·refine ⟨AS.bg (AS.bg (AS.bg DI Ym _) m14 _) Rp _,?_,?_,AS.aj _ _ _,?_⟩
  ·rw [AS.aR _ (Ne.symm I9),AS.aR _ (Ne.symm Ms),AS.aj]
  ·rw [AS.aR _ (Ne.symm Mt),AS.aj]; rfl
  ·rw [AS.aR _ Po,AS.aR _ Yl,AS.aR _ SZ,hO]; rfl
 ·rintro i0 x s2 hx ⟨xN,S0,Up,Og,qO⟩;obtain ⟨lI,rfl⟩ : i0 < (aD leaf (aY t)).length∧x = [aE (((aD leaf (aY t)).length - 1 - i0 : Nat) : Int),aE ((bt (aD leaf (aY t))).getD ((aD leaf (aY t)).length - 1 - i0) 0)]:=by
   rw [List.getElem?_map] at hx;cases hh : (List.range (aD leaf (aY t)).length)[i0]? with
   | none=>rw [hh] at hx; cases hx
   | some v =>
    rw [hh] at hx;obtain ⟨h1,h2⟩:=List.getElem?_eq_some_iff.1 hh;simp at h1 h2;subst h2;simp at hx;exact ⟨h1,hx.symm⟩
  simp only [Bl];have HW : (aD leaf (aY t)).length - 1 - i0 < (aD leaf (aY t)).length:=(by omega);obtain ⟨j,hj⟩ : ∃ j,j = (aD leaf (aY t)).length - 1 - i0:=⟨_,rfl⟩;have Yn : (bt (aD leaf (aY t))).getD j 0 = (((aD leaf (aY t)).getD j 0 : Nat) : Int):=by
   rw [← hj] at HW;simp [bt,List.getD,HW]
  rw [← hj] at HW ⊢;rw [Yn];obtain ⟨up,DJ⟩ : ∃ up,up = (aD leaf (aY t)).getD j 0:=⟨_,rfl⟩;rw [← DJ];simp only [aE];obtain ⟨par,Bv⟩ : ∃ par,par = (yb t leaf keys fresh i0).2:=⟨_,rfl⟩;obtain ⟨TZ,S4⟩ : ∃ TZ,TZ = (yb t leaf keys fresh i0).1:=⟨_,rfl⟩;rw [← Bv] at Og;rw [← S4] at qO;have Yo : j < keys.length:=(by omega);have zV : (List.take 1 (List.drop j (keys.map oM)))[0]? = some (AV.v (.int .u64 (keys.getD j 0 : Nat))):=by
   simp [List.getElem?_take,List.getD,Yo,oM]
  have bK : (0 : Int)≤((j : Nat) : Int):=(by omega);have cN : ((j : Nat) : Int) < ((keys.length : Nat) : Int):=(by omega);refine jA ?_;refine jC ?_;refine ⟨rfl,?_⟩;refine ag ?_;unfold ak at Og;refine eS T.mixed [(I8,[.sl 1 par.length (par.map aw) .any])] [6,7] [4] [] (by kernel_rfl) (by simp only [aS,bh,and_true]; simp [AS.set,aG,Og]) ?_;intro K hK;simp only [↓bX,↓bG,eR,eP,bn,bu,aS,bh,List.any_cons,List.any_nil,List.contains_cons,List.contains_nil,Nat.reduceBEq,Bool.or_false,Bool.or_true,Bool.or_self,Bool.false_or,↓DN,Qa,Qb,Qc,Qd,Qe,Qf,Qg,Qh,reduceCtorEq,↓reduceIte,Na,Nb,Nc,Nk,Nf,Ng,Nh,Za,Zb,Zc,TT,bK,cN,zV,Og];intro ob eU;have Yp : ¬ I8 = ob:=(fun e=>by rw [← e,Og] at eU; cases eU);simp only [if_neg Yp,true_and,and_true];refine hK _ _ ?_;clear hK K;refine iN (AS.j0 (cs':=[.v (.int .i64 2),ak [] .any,.v (.int .u64 (keys.getD j 0 : Nat)),ak par .any,bL]) (AS.aj _ _ _) (.cons (.refl _) (.cons AV.aP (.cons (.refl _) (.cons (.refl _) (.cons (.refl _) .nil)))))) ?_;rw [AS.set_set];have I6:=AS.aj s2 ob [.v (.int .i64 2),ak [] .any,.v (.int .u64 (keys.getD j 0 : Nat)),ak par .any,bL];have Yq : s2.le (s2.set ob [.v (.int .i64 2),ak [] .any,.v (.int .u64 (keys.getD j 0 : Nat)),ak par .any,bL]):=AS.bg (AS.le.refl _) eU _;generalize s2.set ob [.v (.int .i64 2),ak [] .any,.v (.int .u64 (keys.getD j 0 : Nat)),ak par .any,bL] = s3 at I6 Yq ⊢;obtain ⟨P,hP⟩ : ∃ P : Int→Bool,P = fun x=>je up x && decide (c7 t x):=⟨_,rfl⟩;obtain ⟨S,hS⟩ : ∃ S,S = fresh.mergeSort fun x y=>decide (x≤y):=⟨_,rfl⟩;have Uj : S.length≤2 ^ 40:=(by rw [hS]; simpa using hf);have hU : ju P S = zU t fresh up:=by
   rw [hS,hP];refine Pn _ _ _ fun x hx=>?_;simp only [Bool.and_eq_true,decide_eq_true_eq] at hx;obtain ⟨-,h1,h2,-⟩:=hx;exact ⟨h1,by omega⟩
  have FJ:=fun s=>Bt (Γ:=Γ) fresh hf s;rw [← hS] at FJ;have iH:=fun f s=>qM (Γ:=Γ) t ht.1 f s;unfold ax at iH;unfold aC at FJ;refine wK fun K hK=>?_;refine jQ fun K hK=>?_;refine ae (Dv _ _ _) ?_;rintro r s4 ⟨rfl,rfl⟩;simp only [↓cR,↓ct,cw,↓bX,↓bG,eR,eP,bn,bu,aS,bh,List.any_cons,List.any_nil,DX,Nat.reduceBEq,↓DN,Qa,Qb,Qc,Qd,Qe,Qf,Qg,Qh,reduceCtorEq,↓reduceIte,Na,Nb,Nc,Nk,Nf,Ng,Nh,Za,Zb,Zc,TT];refine ae (FJ _) ?_;rintro r s5 ⟨rfl,rfl⟩;simp only [↓cR,↓ct,cw,↓bX,↓bG,eR,eP,bn,bu,aS,bh,List.any_cons,List.any_nil,DX,Nat.reduceBEq,↓DN,Qa,Qb,Qc,Qd,Qe,Qf,Qg,Qh,reduceCtorEq,↓reduceIte,Na,Nb,Nc,Nk,Nf,Ng,Nh,Za,Zb,Zc,TT];refine hK _ _ ?_;clear hK K;refine ag ?_;refine aH (fun E s'=>∃ (i : Nat) (x : AV),i≤S.length∧E 43 = .sl 1 S.length (S.map aE) .any∧E 44 = .v (.int .i64 S.length)∧E 45 = .v (.int .i64 i)∧E 5 = .cX [.sl 5 t.length (au aa.cells t) .any]∧E 11 = .ptr FI 0∧E 14 = .ptr HV 0∧E 15 = .ptr I8 0∧E 16 = .v (.int .i64 j)∧E 17 = .v (.int .i64 up)∧E 18 = .ptr ob 0 ∧
    s'.aJ ob = some [.v (.int .i64 2),ak [] .any,.v (.int .u64 (keys.getD j 0 : Nat)),ak par .any,x]∧cU 1 s2 s' x (ju P (S.take i)).length ((ju P (S.take i)).map aE)∧s2.le s')
   (fun E _=>match E 45 with | .v (.int _ i)=>S.length - i.toNat | _=>0) ?_ ?_
  ·exact ⟨0,bL,Nat.zero_le _,rfl,rfl,rfl,rfl,rfl,rfl,rfl,rfl,rfl,rfl,I6,by simpa [ju] using cU.nil 1 s2 s5,Yq⟩
  ·rintro E1 s6 ⟨i,x,hi,Uq,S5,Pp,e5,Lb,Ur,Lc,Ja,S6,Oh,qe,hx,gX⟩ -
   by_cases aO : i < S.length
   ·have Kh : ((i : Nat) : Int) < ((S.length : Nat) : Int):=(by omega);have rY : (0 : Int)≤((i : Nat) : Int):=(by omega);have kF : (List.take 1 (List.drop i (S.map aE)))[0]? = some (AV.v (.int .i64 S[i])):=by
     simp [List.getElem?_take,aO,aE]
    have dc : ju P (S.take (i + 1)) = zQ P (ju P (S.take i)) S[i]:=(by rw [List.take_succ_eq_append_getElem aO,HU]);generalize S[i] = f at kF dc;have Ki : (ju P (S.take i)).length≤2 ^ 40:=Nat.le_trans (Kg P _) (by rw [List.length_take]; omega);generalize ju P (S.take i) = acc at *
    obtain ⟨wk,Rq⟩ : ∃ wk,wk = ju P (S.take (i + 1)):=⟨_,rfl⟩;rw [← Rq] at dc;refine jB (Ai @S5 (Ai @Pp (decide_eq_true Kh))) ?_;refine wK fun K2 aX=>?_;refine jE ?_;refine ad ?_;refine aX _ _ ?_;clear aX K2;refine wK fun K3 bB=>?_;refine ag ?_;refine jB (Ai @Uq (Ai @Pp (Ai @Kh (Ai @rY @kF)))) ?_;have bO : ∀ (E : Env) (s7 : AS) (x' : AV),E 43 = .sl 1 S.length (S.map aE) .any→E 44 = .v (.int .i64 S.length)→E 45 = .v (.int .i64 i)→E 5 = .cX [.sl 5 t.length (au aa.cells t) .any]→E 11 = .ptr FI 0→E 14 = .ptr HV 0→E 15 = .ptr I8 0→E 16 = .v (.int .i64 j)→E 17 = .v (.int .i64 up)→E 18 = .ptr ob 0 →
      s7.aJ ob = some [.v (.int .i64 2),ak [] .any,.v (.int .u64 (keys.getD j 0 : Nat)),ak par .any,x']→cU 1 s2 s7 x' wk.length (wk.map aE)→s2.le s7→K3 E s7:=by
     intro E s7 x' f43 f44 f45 f5 f11 f14 f15 f16 f17 f18 S7 fx vY;refine bB _ _ ?_;clear bB K3;refine jD (Ai @f45 (aQ i (by omega))) ?_;refine ⟨⟨i + 1,x',aO,f43,f44,rfl,f5,f11,f14,f15,f16,f17,f18,S7,by rw [← Rq]; exact fx,vY⟩,?_⟩;simp only [Pp,aG,↓reduceIte];omega
    clear bB;have Yr : P f = (je up f && decide (c7 t f)):=(by rw [hP]);have JG:=fun s=>Br (Γ:=Γ) hG up f s;have OM:=fun s=>iH f s;have xbJ:=fun s=>ah.jq (.cons hx.aL (.cons (.refl _) .nil)) (mE (Γ:=Γ) acc f (by omega) s);generalize je up f = b1 at Yr JG;generalize decide (c7 t f) = b2 at Yr OM;have mZ : P f = false→wk = acc:=(fun h=>by rw [dc]; exact if_neg (by rw [h]; simp));have xb : f ∈ acc→wk = acc:=(fun h=>by rw [dc]; exact if_neg fun k=>k.2 h);have pF : P f = true→f ∉ acc→wk = acc ++ [f]:=(fun h k=>by rw [dc]; exact if_pos ⟨h,k⟩);refine jS @S6 fun K hK=>?_;refine ae (JG _) ?_;rintro r s7 ⟨rfl,rfl⟩;cases b1 with
    | false =>
     refine jR hK ?_;clear hK K;refine jF ?_;refine ad ?_;simp only [aq,av,if_true,if_false];rw [mZ (by rw [Yr]; rfl)] at bO;exact bO _ _ x Uq S5 Pp e5 Lb Ur Lc Ja S6 Oh qe hx gX
    | true =>
     refine jN @e5 ?_;refine ae (OM _) ?_;rintro r s8 ⟨rfl,rfl⟩;cases b2 with
     | false =>
      refine jR hK ?_;clear hK K;refine jF ?_;refine ad ?_;simp only [aq,av,if_true,if_false];rw [mZ (by rw [Yr]; rfl)] at bO;exact bO _ _ x Uq S5 Pp e5 Lb Ur Lc Ja S6 Oh qe hx gX
     | true =>
      refine jN (Ai @Oh @qe) ?_;refine ae (xbJ _) ?_;rintro r s9 ⟨rfl,rfl⟩;by_cases hfa : f ∈ acc
      ·rw [decide_eq_true hfa];refine jR hK ?_;clear hK K;refine jF ?_;refine ad ?_;simp only [aq,av,if_true,if_false];rw [xb hfa] at bO;exact bO _ _ x Uq S5 Pp e5 Lb Ur Lc Ja S6 Oh qe hx gX
      ·rw [decide_eq_false hfa];rw [pF (by rw [Yr]; rfl) hfa,List.map_append,List.length_append] at bO;refine jR hK ?_;clear hK K;refine jE ?_;rcases hx with ⟨rfl,lI,rV⟩ | ⟨tk,ek,rfl,gQ,pC⟩
       ·unfold bL at qe;refine wE fun K hK=>?_;simp only [↓DN,Qa,Qb,Qc,Qd,Qe,Qf,Qg,Qh,reduceCtorEq,↓reduceIte,Na,Nb,Nc,Nk,Nf,Ng,Nh,Za,Zb,Zc,TT,Oh,qe,List.replicate_succ];intro tk gQ;refine hK _ _ (bO _ _ (.sl 1 1 [.v (.int .i64 f)] (.own tk 0)) Uq S5 Pp e5 Lb Ur Lc Ja S6 Oh ?_ ?_ ?_)
        ·rw [AS.aj];rfl
        ·have : acc = []:=List.eq_nil_of_length_eq_zero lI;subst this;exact .inr ⟨tk,0,rfl,by simp [AS.cd,AS.set],bd gX gQ⟩
        ·exact AS.bg (AS.bC gX (bd gX gQ) 0) eU _
       ·refine wE fun K hK=>?_;simp only [↓DN,Qa,Qb,Qc,Qd,Qe,Qf,Qg,Qh,reduceCtorEq,↓reduceIte,Na,Nb,Nc,Nk,Nf,Ng,Nh,Za,Zb,Zc,TT,Oh,qe,gQ,List.replicate_succ];refine ⟨by omega,by omega,hK _ _ (bO _ _ (.sl 1 (acc.length + 1) (acc.map aE ++ [.v (.int .i64 f)]) (.own tk (ek + 1))) Uq S5 Pp e5 Lb Ur Lc Ja S6 Oh ?_ ?_ ?_)⟩
        ·rw [AS.aj];rfl
        ·exact .inr ⟨tk,ek + 1,rfl,by simp [AS.cd,AS.set],pC⟩
        ·exact AS.bg (AS.bC gX pC (ek + 1)) eU _
   ·have Kh : ¬ ((i : Nat) : Int) < ((S.length : Nat) : Int):=(by omega);obtain rfl : i = S.length:=(by omega);refine jB (Ai @S5 (Ai @Pp (decide_eq_false Kh))) ?_;refine wK fun K2 aX=>?_;refine jF ?_;refine aB ?_;simp only [av,aq,if_true];refine hK _ _ ?_;clear hK aX K2 K;rw [List.take_length,hU] at hx;obtain ⟨U,hUe⟩ : ∃ U,U = zU t fresh up:=⟨_,rfl⟩;rw [← hUe] at hx;obtain ⟨b,hb⟩ : ∃ b : aa,b = ⟨2,[],keys.getD j 0,par,U⟩:=⟨_,rfl⟩;refine iN (AS.j0 (cs':=b.cells) qe (by rw [hb]; exact .cons (.refl _) (.cons (.refl _) (.cons (.refl _) (.cons (.refl _) (.cons hx.aL .nil)))))) ?_;have GS:=AS.aj s6 ob b.cells;have nn : s2.le (s6.set ob b.cells):=AS.bg gX eU _;generalize s6.set ob b.cells = s7 at GS nn ⊢;have r11:=nn.aJ _ _ S0;have r14:=nn.aJ _ _ Up;have r15:=nn.aJ _ _ Og;have rO:=nn.aJ _ _ qO;have Mu : TZ.length = t.length:=(by rw [S4]; exact uX ..);have S8 : up < TZ.length:=by
     have h1 : up ∈ aD leaf (aY t):=by
      rw [DJ];simp [List.getD,HW]
     have:=(iw ei eX up h1).1;omega
    have S9 : (0 : Int)≤((up : Nat) : Int):=(by omega);have Bi : ((up : Nat) : Int) < ((t.length : Nat) : Int):=(by omega);have nq:=qQ (k:=5) (fun n=>eE n) S8 b rest;have FK : (au aa.cells TZ ++ rest).length = TZ.length * 5 + rest.length:=(by rw [List.length_append,Go.AM.cL eE]);generalize au aa.cells TZ ++ rest = R at rO nq FK;have Ys : b.cells = [.v (.int .i64 2),ak [] .any,.v (.int .u64 (keys.getD j 0 : Nat)),ak par .any,aC U .any]:=(by rw [hb]; rfl);rw [Ys] at nq GS;simp only [bm] at nq;unfold ak aC at GS nq;simp only [List.length_nil,List.map_nil] at GS nq;refine jS (Ai @Lb (Ai @S6 (Ai @Oh (Ai @r11 (Ai @GS (Ai @rO (Ai @S9 @Bi))))))) fun K hK=>?_;refine ⟨by omega,hK _ _ ?_⟩;clear hK K;rw [nq];have nOb : O≠ob:=(fun e=>by rw [← e,qO] at eU; cases eU);have xbK : HV≠ob:=(fun e=>by rw [← e,Up] at eU; cases eU);have xgY : FI≠ob:=(fun e=>by rw [← e,S0] at eU; cases eU);have Mv : s.le (s7.set O (au aa.cells (TZ.set up b) ++ rest)):=AS.bg (xN.trans nn) GR _;have Yt : (s7.set O (au aa.cells (TZ.set up b) ++ rest)).aJ FI = _:=(AS.aR _ (Ne.symm SZ) _).trans r11;have Rr : (s7.set O (au aa.cells (TZ.set up b) ++ rest)).aJ HV = _:=(AS.aR _ (Ne.symm Yl) _).trans r14;have Yu : (s7.set O (au aa.cells (TZ.set up b) ++ rest)).aJ I8 = _:=(AS.aR _ (Ne.symm Po) _).trans r15;have uO:=AS.aj s7 O (au aa.cells (TZ.set up b) ++ rest);have ub : (s7.set O (au aa.cells (TZ.set up b) ++ rest)).aJ ob = _:=(AS.aR _ (Ne.symm nOb) _).trans GS;generalize s7.set O (au aa.cells (TZ.set up b) ++ rest) = s8 at Mv Yt Rr Yu uO ub ⊢;have Pq : (bt (fK leaf (aY t))).length = (aD leaf (aY t)).length:=(by simp [bZ,fK]);have Rs : (List.take 1 (List.drop j ((bt (fK leaf (aY t))).map aE)))[0]? = some (AV.v (.int .i64 (fc (nodeAt leaf (aY t) j) : Nat))):=by
     simp [List.getElem?_take,bt,fK,HW,aE]
    have xC:=fun s=>Bw (Γ:=Γ) n9 kV hG t ht (fc (nodeAt leaf (aY t) j) : Nat) s;have pX:=fun s=>wm (Γ:=Γ) n9 kV b (by rw [hb,hUe]; exact Nat.le_trans (Mr _ _ _) (by omega)) (oN t (fc (nodeAt leaf (aY t) j) : Nat)) (by
     unfold oN;split
     ·exact Nat.le_trans (lU t _ _) (by omega)
     ·simp) s
    rw [Ys] at pX;have xbL : (0 : Int)≤((j : Nat) : Int):=(by omega);have Yv : ((j : Nat) : Int) < (((bt (fK leaf (aY t))).length : Nat) : Int):=(by omega);obtain ⟨HH,Us⟩ : ∃ HH,HH = oN t (fc (nodeAt leaf (aY t) j) : Nat):=⟨_,rfl⟩;rw [← Us] at xC pX;obtain ⟨PD,hPD⟩ : ∃ PD,PD = rH b HH:=⟨_,rfl⟩;rw [← hPD] at pX;obtain ⟨SD,hSD⟩ : ∃ SD,SD = bt (fK leaf (aY t)):=⟨_,rfl⟩;rw [← hSD] at Pq Rs Rr Yv;unfold ax at xC;unfold ak at xC pX;unfold aC at Rr pX;simp only [List.length_nil,List.map_nil] at pX;generalize au aa.cells t = XT at *
    have Mw : ¬ ob = HV:=fun e=>xbK e.symm;have Ta : ¬ ob = I8:=fun e=>Yp e.symm;refine fB T.mixed [(ob,[.v (.int .i64 2),.sl 1 0 [] .any,.v (.int .u64 (keys.getD j 0 : Nat)),.sl 1 par.length (par.map aw) .any,.sl 1 U.length (U.map aE) .any]),(HV,[.sl 1 SD.length (SD.map aE) .any])] [6,7,8] [0,2] [] (by kernel_rfl) (by simp only [aS,bh,and_true]; simp [AS.set,aG,Rr,ub,Yu]) ?_;intro K hK;simp only [↓bX,↓bG,eR,eP,bn,bu,aS,bh,List.any_cons,List.any_nil,List.contains_cons,List.contains_nil,Nat.reduceBEq,Bool.or_false,Bool.or_true,Bool.or_self,Bool.false_or,↓DN,Qa,Qb,Qc,Qd,Qe,Qf,Qg,Qh,reduceCtorEq,↓reduceIte,Na,Nb,Nc,Nk,Nf,Ng,Nh,Za,Zb,Zc,TT,e5,Ur,Lc,Ja,Oh,xbL,Yv,Rs,Rr,ub,Yu,Mw,Ta];refine ae (xC _) ?_;rintro r s9 ⟨rfl,rfl⟩;simp only [↓cR,↓ct,cw,↓bX,↓bG,eR,eP,bn,bu,aS,bh,List.any_cons,List.any_nil,DX,Nat.reduceBEq,↓DN,Qa,Qb,Qc,Qd,Qe,Qf,Qg,Qh,reduceCtorEq,↓reduceIte,Na,Nb,Nc,Nk,Nf,Ng,Nh,Za,Zb,Zc,TT,Rr,ub,Yu,Mw,Ta];refine ae (pX _) ?_;rintro r Cs ⟨rfl,rfl⟩;have Yw : ¬ HV = I8:=fun e=>Mt e.symm;simp only [↓cR,↓ct,cw,↓bX,↓bG,eR,eP,bn,bu,aS,bh,List.any_cons,List.any_nil,DX,Nat.reduceBEq,↓DN,Qa,Qb,Qc,Qd,Qe,Qf,Qg,Qh,reduceCtorEq,↓reduceIte,Na,Nb,Nc,Nk,Nf,Ng,Nh,Za,Zb,Zc,TT,Lc,Rr,ub,Yu,Mw,Ta,Yw];refine hK _ _ ?_;clear hK K;simp only [aq,true_and];have gh : j = (aD leaf (aY t)).length - 1 - i0:=hj;refine ⟨AS.bg Mv Rp _,(AS.aR _ (Ne.symm I9) _).trans Yt,(AS.aR _ (Ne.symm Mt) _).trans (by rw [Rr,hSD]; rfl),?_,?_⟩
    ·rw [AS.aj,hPD,Us,hb,hUe,Bv,DJ,hj];rfl
    ·rw [AS.aR _ Po,uO,hb,hUe,Bv,DJ,S4,hj];rfl
 ·rw [show ((List.range (aD leaf (aY t)).length).map fun i=>[aE (((aD leaf (aY t)).length - 1 - i : Nat) : Int),aE ((bt (aD leaf (aY t))).getD ((aD leaf (aY t)).length - 1 - i) 0)]).length = (aD leaf (aY t)).length by simp];rintro s2 ⟨xN,S0,Up,Og,qO⟩;have Mu:=uX t leaf keys fresh (aD leaf (aY t)).length;obtain ⟨W,hW⟩ : ∃ W,W = sK t leaf key keys fresh:=⟨_,rfl⟩;rw [← hW];unfold sK at hW;simp only at hW;generalize (yb t leaf keys fresh (aD leaf (aY t)).length).2 = par at *
  generalize (yb t leaf keys fresh (aD leaf (aY t)).length).1 = TZ at *
  have hu : 2 * leaf < TZ.length:=(by omega);have nq:=zT hu key par rest;have FK : (au aa.cells TZ ++ rest).length = TZ.length * 5 + rest.length:=(by rw [List.length_append,Go.AM.cL eE]);rw [← hW] at nq;have Pc : W.length = t.length:=(by rw [hW,List.length_set,Mu]);generalize au aa.cells TZ ++ rest = R at qO nq FK;unfold ak at Og nq;have bK : (0 : Int)≤((2 * leaf : Nat) : Int):=(by omega);have cN : ((2 * leaf : Nat) : Int) < ((t.length : Nat) : Int):=(by omega);have Pr : 2 * leaf < t.length:=(by omega);have Yx : ¬ FI = O:=fun e=>SZ e.symm;have xbM : ¬ I8 = O:=fun e=>Po e.symm;refine eS T.mixed [(FI,[.dj O 0 5 t.length cap]),(I8,[.sl 1 par.length (par.map aw) .any])] [10,13] [0,3,7] [] (by kernel_rfl) (by simp only [aS,bh,and_true]; simp [AS.set,aG,S0,Og]) ?_;intro K hK;simp only [↓bX,↓bG,eR,eP,bn,bu,aS,bh,List.any_cons,List.any_nil,List.contains_cons,List.contains_nil,Nat.reduceBEq,Bool.or_false,Bool.or_true,Bool.or_self,Bool.false_or,↓DN,Qa,Qb,Qc,Qd,Qe,Qf,Qg,Qh,reduceCtorEq,↓reduceIte,Na,Nb,Nc,Nk,Nf,Ng,Nh,Za,Zb,Zc,TT,bw leaf (by omega),bK,cN,af,Pr,S0,Og,qO,Yx,xbM,I9,Ne.symm I9];refine ⟨by omega,by rw [List.length_set]; omega,hK _ _ ?_⟩;clear hK K;rw [nq];have Yt : (s2.set O (au aa.cells W ++ rest)).aJ FI = _:=(AS.aR _ Yx _).trans S0;have uO:=AS.aj s2 O (au aa.cells W ++ rest);have oc : s.le (s2.set O (au aa.cells W ++ rest)):=AS.bg xN GR _;generalize s2.set O (au aa.cells W ++ rest) = s3 at Yt uO oc ⊢;refine jB @Yt ?_;refine jI ?_;exact jW ⟨O,cap,rest,by rw [Pc],uO,by rw [Pc]; exact dA,GR,oc⟩
theorem zS.settle {s s' : AS} {r : AV} {T : List aa} (h : zS s s' r T) : ∃ s2,bf Γ s' r s2 (ax T)∧s.le s2:=by
 obtain ⟨O,cap,rest,rfl,h1,_,h3,h4⟩:=h;exact ⟨_,bf.outer h1 (Go.AM.cL eE _),AS.yr h4 h3⟩
theorem DK (n9 : Γ 0 = gR Sha.H0) (kV : Γ 1 = Sha.K.map wV) (hG : Γ 3 = eW.map nj) (t : List aa) (ht : cV t) (J8 : t.length≤2 ^ 30) (hw : ∀ n ∈ t,qP n) (hr : aA t) (leaf : Nat) (hm : c7 t leaf)
  (key : Nat) (keys : List Nat) (hk : keys.length = (aD leaf (aY t)).length) (fresh : List Int) (hf : fresh.length≤2 ^ 40) (s : AS) :
  ah prog Γ 89 [ax t,.v (.int .i64 leaf),.v (.int .u64 key),xB keys,aC fresh .any] s (fun r s'=>r = ax (sK t leaf key keys fresh)∧s' = s):=by
 refine ah.forget (ah.settle (Bu n9 kV hG t ht J8 hw hr leaf hm key keys hk fresh hf s) ?_ (R:=fun r s'=>r = ax (sK t leaf key keys fresh)∧s.le s')) fun r s' ⟨h1,h2⟩=>⟨s,h2,h1,rfl⟩;intro r s' h;obtain ⟨s2,h1,h2⟩:=zS.settle (Γ:=Γ) h;exact ⟨_,_,h1,rfl,h2⟩
end Go.Proofs.YtcjifoccjlpapaaGreatDoor
