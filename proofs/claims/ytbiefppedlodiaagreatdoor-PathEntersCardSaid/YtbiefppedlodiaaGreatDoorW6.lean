/- Contracts of functions, each walked once; each theorem states its conditions. -/
import Derived.Test.YtbiefppedlodiaaGreatDoorAMp6
import Derived.Test.YtbiefppedlodiaaGreatDoorW1
import Derived.Test.YtbiefppedlodiaaGreatDoorW5
import Derived.Test.YtbiefppedlodiaaGreatDoorW2
import Derived.Test.YtbiefppedlodiaaGreatDoorW4
import Derived.Test.YtbiefppedlodiaaGreatDoorAMp7
import Derived.Test.YtbiefppedlodiaaGreatDoorW3
import Derived.Test.YtbiefppedlodiaaGreatDoorAMp5
import Derived.Test.YtbiefppedlodiaaGreatDoorAMp4
set_option linter.unusedSimpArgs false
set_option linter.unusedVariables false
open Nat renaming reduceLT → Na, reduceLeDiff → Nb, reduceEqDiff → Nc, reduceAdd → Nk, reduceMul → Nf, reducePow → Ng, reduceSub → Nh, reduceBEq → Nz
open Int renaming reduceLT → Za, reduceLE → Zb, reduceToNat → Zc
open And renaming intro → Ai
open Go.AM renaming ashift → Qa, aconv → Qb, aindexAddr → Qc, aindex → Qd, aslice → Qe, abuiltin → Qf, awp_reg_seq → wS, awp_reg_end → wE, awp_seq_k → wK, awp_cond_k → wC
open Go.AM.AV renaming cells → Qg, one → Qh
set_option maxRecDepth 100000
set_option maxHeartbeats 8000000
namespace Go.Proofs.YtbiefppedlodiaaGreatDoor
open Go Go.AM Go.Proofs Tryz
variable {Γ : Nat→List AV}
theorem vG (hG : Γ 3 = eS.map nH) (t : List al) (mf : bw t) (skip : List Int) (Tc : skip.length≤2 ^ 61) : ∀ (l n : Nat),lv n = l→n < 63→n + 2 ^ l≤t.length →
  ∀ (s0 s : AS) (x : AV) (k : Nat) (cs : List AV),dz 1 s0 s x k cs→s0.le s→k + 33 * 2 ^ l≤100000 →
  ai prog Γ 124 [aZ t,.v (.int .i64 n),aH skip .any,x] s (Xm s0 k cs (ly t skip l n)):=by
 intro l;induction l with
 | zero =>
  intro n hl hn hs s0 s x k cs hx hle hk;exact lN hG t mf skip Tc n hn (by have : (2 : Nat) ^ 0 = 1:=rfl; omega) (.inl (Az hn hl)) s0 s x k cs hx hle (by have : (2 : Nat) ^ 0 = 1:=rfl; omega)
 | succ l ih =>
  intro n hl hn hs s0 s x k cs hx hle hk;have wZ : 0 < 2 ^ l:=Nat.two_pow_pos l;have RD : 2 ^ (l + 1) = 2 ^ l + 2 ^ l:=(by rw [Nat.pow_succ]; omega);have hi : n < t.length:=(by omega);by_cases k0 : (nd t n).kind = 0
  ·have fL : ly t skip (l + 1) n = ly t skip l (n - 2 ^ l) ++ ly t skip l (n + 2 ^ l):=(by simp only [ly]; exact if_pos k0);rw [fL];refine aa func124 rfl ntmps124 results124 (by simp) ?_;obtain ⟨KJ,YL,EC,Dj,I0,TE⟩:=uX hn hl;have yD:=fun s=>gS (Γ:=Γ) hG (n : Int) (by omega) s;have XK:=fun s=>lT (Γ:=Γ) hG (n : Int) (by omega) s;rw [KJ] at yD XK;have xeI:=mw mf skip l (n - 2 ^ l);have h1:=fun s hle=>ih (n - 2 ^ l) YL (by omega) (by omega) s0 s x k cs hle;have h2:=fun s r hx=>ih (n + 2 ^ l) EC Dj (by omega) s0 s r (k + (ly t skip l (n - 2 ^ l)).length) (cs ++ (ly t skip l (n - 2 ^ l)).map aM) hx;have dw:=dm hi;clear ih fL;generalize ly t skip l (n - 2 ^ l) = L1 at *
   generalize ly t skip l (n + 2 ^ l) = L2 at *
   generalize nd t n = N at *
   unfold aZ at *
   generalize aQ al.cells t = X at *
   obtain ⟨nk,nm,ny,n8,nu⟩:=N;unfold al.cells at dw;unfold aH at *
   simp only at k0;subst k0;have cz : (0 : Int)≤(n : Int):=(by omega);refine jA ?_;refine aY 9 (by decide) ?_;intro K hK;simp only [↓DM,bY,DX,Nz,↓DN,Qa,Qb,Qc,Qd,Qe,Qf,Qg,Qh,reduceCtorEq,↓reduceIte,Na,Nb,Nc,Nk,Nf,Ng,Nh,Za,Zb,Zc,TT,ax,hi,cz,dw];intro o1 zL;refine hK _ _ o1 _ rfl zL ?_;clear hK K zL;refine jK (yD _) ?_;rintro s1 rfl;refine wK fun K1 kf=>?_;refine ag ?_;refine jA ?_;refine jE ?_;refine jK (XK _) ?_;rintro s2 rfl;refine jQ fun K hK=>?_;refine ad (h1 _ hx hle (by omega)) ?_;rintro r s3 ⟨hx3,gb⟩;refine jM ?_;refine ad (h2 _ _ hx3 gb (by omega)) ?_;rintro r2 s4 ⟨hx4,ib⟩;refine jR hK ?_;clear hK K;refine jI ?_;refine ⟨_,_,AV.aB.refl _,AS.le.refl _,?_,ib⟩;rw [List.length_append,List.map_append,← Nat.add_assoc,← List.append_assoc];exact hx4
  ·have fL : ly t skip (l + 1) n = qe skip (nd t n) n ++ n9 skip (nd t n).jk:=(by simp only [ly]; exact if_neg k0);rw [fL];exact lN hG t mf skip Tc n hn hi (.inr k0) s0 s x k cs hx hle (by omega)
theorem iP (hG : Γ 3 = eS.map nH) (t : List al) (ht : dS t) (x : Int) (skip : List Int) (Tc : skip.length≤2 ^ 61) (s : AS) :
  ai prog Γ 61 [aZ t,.v (.int .i64 x),aH skip .any] s (fun r s'=>r = aH (bG t x skip) .any∧s' = s):=by
 refine aa func61 rfl ntmps61 results61 (by simp) ?_;have hr:=fun s=>iX (Γ:=Γ) hG t ht s;have hh:=fun (mf : bw t) n hn hs s=>vG (Γ:=Γ) hG t mf skip Tc (lv n) n rfl hn hs s s bO 0 [] (dz.nil _ _ _) (AS.le.refl _);have lj:=ht.1;have uu : ¬ (0≤x∧x < (t.length : Int)∧bw t)→bG t x skip = []:=fun h=>if_neg h;have KT : 0≤x∧x < (t.length : Int)∧bw t→bG t x skip = ly t skip (lv x.toNat) x.toNat:=fun h=>if_pos h;unfold aZ at *
 generalize aQ al.cells t = X at *
 unfold bO at hh;refine jA ?_;refine wK fun K hK=>?_;by_cases h0 : x < 0
 ·refine jB (decide_eq_true h0) ?_;refine jE ?_;refine jA ?_;refine jI ?_;refine ⟨_,_,AV.aI (sz:=1),AS.le.refl _,?_,rfl⟩;rw [uu (fun k=>by omega)];rfl
 ·by_cases h1 : (t.length : Int)≤x
  ·refine jB (Ai (decide_eq_false h0) (decide_eq_true h1)) ?_;refine jE ?_;refine jA ?_;refine jI ?_;refine ⟨_,_,AV.aI (sz:=1),AS.le.refl _,?_,rfl⟩;rw [uu (fun k=>by omega)];rfl
  ·refine jS (Ai (decide_eq_false h0) (decide_eq_false h1)) fun K hK=>?_;refine ad (hr _) ?_;rintro r s1 ⟨rfl,rfl⟩;by_cases mf : bw t
   ·rw [decide_eq_true mf];refine jR hK ?_;clear hK K;refine jF ?_;refine ab ?_;refine hK _ _ ?_;clear hK K;obtain ⟨n,rfl⟩:=Int.eq_ofNat_of_zero_le (show 0≤x by omega);have hn : n < t.length:=(by omega);obtain ⟨ik,nY⟩:=mf.span hn;have vj:=lI (nG n);refine jQ fun K hK=>?_;refine ad (hh mf n nY ik _ (by omega)) ?_;rintro r s2 ⟨hx,hle⟩;refine jR hK ?_;clear hK K;refine jI ?_;refine ⟨_,_,hx.aB,hle,?_,rfl⟩;rw [KT ⟨by omega,by omega,mf⟩,Int.toNat_natCast];unfold aH;rw [Nat.zero_add,List.nil_append]
   ·rw [decide_eq_false mf];refine jR hK ?_;clear hK K;refine jE ?_;refine jA ?_;refine jI ?_;refine ⟨_,_,AV.aI (sz:=1),AS.le.refl _,?_,rfl⟩;rw [uu (fun k=>mf k.2.2)];rfl
def B9 (s s' : AS) (r : AV) (l : List Int) : Prop:=mn 1 s' r l.length (l.map aM)∧(∀ o,uY r = some o→s.av o = none)∧s.le s'
theorem ya (s : AS) : ai prog Γ 191 [bO] s (fun r s'=>B9 s s' r []):=by
 refine aa func191 rfl ntmps191 results191 (by simp) ?_;unfold bO;refine jA ?_;refine wK fun K hK=>?_;refine jA ?_;refine jE ?_;refine jA ?_;refine jI ?_;exact ⟨_,_,AV.aB.refl _,AS.le.refl _,.inl ⟨rfl,rfl,.inl rfl⟩,(fun o h=>by cases h),AS.le.refl _⟩
theorem zt (l : List Int) (s : AS) (hl : l.length≤2 ^ 42) : ai prog Γ 191 [aH l .no] s (fun r s'=>B9 s s' r l):=by
 refine aa func191 rfl ntmps191 results191 (by simp) ?_;unfold aH;refine jA ?_;refine wK fun K hK=>?_;refine jB @and_false ?_;refine jF ?_;refine ab ?_;refine hK _ _ ?_;clear hK K;by_cases h0 : l.length = 0
 ·have ta : l = []:=List.eq_nil_of_length_eq_zero h0;subst ta;refine jA ?_;refine jI ?_;exact ⟨_,s,AV.aB.refl _,AS.le.refl s,.inl ⟨rfl,rfl,.inr (.inr rfl)⟩,(fun o h=>by cases h),AS.le.refl _⟩
 ·refine Dm rfl (by decide) ?_;intro ops;refine jM ?_;refine ⟨_,fun G a w hr=>kO (n:=0) (m:=l.length) (cs:=[]) (ds:=l.map aM) (e:=3) (z:=[.v (.int .i64 0)]) rfl underlying24 (by simp only [↓DN,Qa,Qb,Qc,Qd,Qe,Qf,Qg,Qh,reduceCtorEq,↓reduceIte,Na,Nb,Nc,Nk,Nf,Ng,Nh,Za,Zb,Zc,TT]; try rfl) (by simp only [↓DN,Qa,Qb,Qc,Qd,Qe,Qf,Qg,Qh,reduceCtorEq,↓reduceIte,Na,Nb,Nc,Nk,Nf,Ng,Nh,Za,Zb,Zc,TT]; try rfl) (by rw [T.c3]; decide) (by rw [T.c3]; rfl) (by simp only [↓DN,Qa,Qb,Qc,Qd,Qe,Qf,Qg,Qh,reduceCtorEq,↓reduceIte,Na,Nb,Nc,Nk,Nf,Ng,Nh,Za,Zb,Zc,TT,im,aL,aF,Nc,↓reduceIte]) h0 (by rw [T.b3]; omega) (by omega) (by simp [List.all_eq_true,aM,AV.one]) (by rw [T.c3]; exact .inl ⟨rfl,rfl,.inr (.inr rfl)⟩) hr.eval hr.st,?_⟩;rw [T.c3];rintro r s1 ⟨ob,cap,rest,rfl,gB,CJ,tw,rp,rfl⟩;refine jM ?_;refine jI ?_;have rp : s.av ob = none:=by
   rcases rp with h | ⟨_,h⟩
   ·exact h
   ·simp [aL,aF] at h
  rw [Nat.zero_add,Nat.mul_one] at *
  refine ⟨_,_,AV.aB.refl _,AS.le.refl _,.inr ⟨ob,cap,rest,rfl,AS.ae _ _ _,by simp,by rw [Nat.mul_one]; exact tw,gB,CJ⟩,fun o h=>?_,AS.aE (AS.le.refl s) rp _⟩;cases h;exact rp
theorem ug (l : List Int) (s : AS) (hl : l.length≤2 ^ 42) : ai prog Γ 191 [aH l .any] s (fun r s'=>B9 s s' r l) :=
 ai.anyS (post:=[]) (fun e _=>by obtain rfl : l = []:=List.eq_nil_of_length_eq_zero e; exact ya s) (zt l s hl)
theorem uh (N : al) (hm : N.name.length≤2 ^ 45) (hp : N.parent.length≤2 ^ 45) (hu : N.jk.length≤2 ^ 42) (s : AS) : ai prog Γ 156 [.agg N.cells] s (fun r s'=>∃ x,r = .agg (fO (N,x))∧B9 s s' x N.jk):=by
 refine aa func156 rfl ntmps156 results156 (by simp) ?_;unfold al.cells;obtain ⟨k,m,y,pa,u⟩:=N;simp only at hp hu hm;refine jS @aH.eq_1 fun K hK=>?_;intro o1 zL o2 pQ;have Mj : o2≠o1:=by
  rintro rfl;simp [AS.set] at pQ
 have yX:=Mj.symm;have Zy : s.av o2 = none:=(by simpa [AS.set,aF,Mj] using pQ);refine hK _ _ ?_;clear hK K;refine dL T.mixed [(o1,[.v (.int .i64 k),.sl 1 m.length (m.map ah) .any,.v (.int .u64 y),.sl 1 pa.length (pa.map ah) .any,.sl 1 u.length (u.map aM) .any])] [2,5,8] [1,4,7] [10,12,14] (by kernel_rfl) (by simp only [aG,aJ,and_true]; simp [AS.set,aF,yX,Mj]) ?_;intro K hK;simp only [↓bp,↓a7,dh,dd,aO,aS,aG,aJ,List.any_cons,List.any_nil,List.contains_cons,List.contains_nil,Nat.reduceBEq,Bool.or_false,Bool.or_true,Bool.or_self,Bool.false_or,↓DN,Qa,Qb,Qc,Qd,Qe,Qf,Qg,Qh,reduceCtorEq,↓reduceIte,Na,Nb,Nc,Nk,Nf,Ng,Nh,Za,Zb,Zc,TT,Mj,yX];refine ad (fB m _ (by omega)) ?_;rintro r s' ⟨rfl,rfl⟩;simp only [↓cj,↓bM,bY,↓bp,↓a7,dh,dd,aO,aS,aG,aJ,List.any_cons,List.any_nil,DX,Nat.reduceBEq,↓DN,Qa,Qb,Qc,Qd,Qe,Qf,Qg,Qh,reduceCtorEq,↓reduceIte,Na,Nb,Nc,Nk,Nf,Ng,Nh,Za,Zb,Zc,TT,Mj,yX];refine ad (fB pa _ hp) ?_;rintro r s' ⟨rfl,rfl⟩;simp only [↓cj,↓bM,bY,↓bp,↓a7,dh,dd,aO,aS,aG,aJ,List.any_cons,List.any_nil,DX,Nat.reduceBEq,↓DN,Qa,Qb,Qc,Qd,Qe,Qf,Qg,Qh,reduceCtorEq,↓reduceIte,Na,Nb,Nc,Nk,Nf,Ng,Nh,Za,Zb,Zc,TT,Mj,yX];refine ad (ug u _ hu) ?_;rintro r s' ⟨hb,kE,hle⟩;have q1 : s'.av o1 = some [.v (.int .i64 k),.sl 1 m.length (m.map ah) .any,.v (.int .u64 y),.sl 1 pa.length (pa.map ah) .any,.sl 1 u.length (u.map aM) .any]:=hle.av _ _ (by simp [AS.set,aF,yX]);have q2 : s'.av o2 = some [.v (.int .i64 0),.v (.slice none 0 0),.v (.int .u64 0),.v (.slice none 0 0),.v (.slice none 0 0)]:=hle.av _ _ (AS.ae _ _ _);have hs : s.le s':=(AS.aE (AS.aE (AS.le.refl s) zL _) Zy _).trans hle;have n1 : uY r≠some o1:=(fun e=>by have:=kE o1 e; simp [AS.set,aF,yX] at this);have n2 : uY r≠some o2:=(fun e=>by have:=kE o2 e; simp [AS.set] at this);have n0 : ∀ o,uY r = some o→s.av o = none:=fun o e=>AS.le_none (AS.aE (AS.aE (AS.le.refl s) zL _) Zy _) (kE o e);have ln : r.one = true:=by
  rcases hb with ⟨_,_,rfl | rfl | rfl⟩ | ⟨_,_,_,rfl,_⟩ <;> rfl
 have hcell : r.cells = [r]:=by
  rcases hb with ⟨_,_,rfl | rfl | rfl⟩ | ⟨_,_,_,rfl,_⟩ <;> rfl
 unfold AV.cells at hcell;unfold AV.one at ln;simp only [↓cj,↓bM,bY,↓bp,↓a7,dh,dd,aO,aS,aG,aJ,List.any_cons,List.any_nil,DX,Nat.reduceBEq,↓DN,Qa,Qb,Qc,Qd,Qe,Qf,Qg,Qh,reduceCtorEq,↓reduceIte,Na,Nb,Nc,Nk,Nf,Ng,Nh,Za,Zb,Zc,TT,q1,q2,hcell,Mj,yX,aH,ln];refine hK _ _ ?_;clear hK K;refine jB (Ai @q1 (Ai @q2 (Ai @hcell (Ai @Mj (Ai @yX (Ai @aH.eq_1 @ln)))))) ?_;refine aW ?_;refine ev (o:=o2) (off:=0) rfl (AS.ae _ _ _) (by rw [T.Fg]; decide) (by simp only [↓DN,Qa,Qb,Qc,Qd,Qe,Qf,Qg,Qh,reduceCtorEq,↓reduceIte,Na,Nb,Nc,Nk,Nf,Ng,Nh,Za,Zb,Zc,TT]; rfl) ?_;refine ⟨_,_,AV.aB.refl _,AS.le.refl _,r,rfl,?_,n0,?_⟩
 ·first | exact ((((hb.l7 n1).l7 n1).l7 n1).l7 n2) | exact ((hb.l7 n1).l7 n2)
 ·first | exact AS.aE (AS.aE (AS.aE (AS.aE hs zL _) zL _) zL _) Zy _ | exact AS.aE (AS.aE hs zL _) Zy _
theorem Io (a b c d e : AV) : mI 5 [a,b,c,d,e] = [a,b,c,d,e]:=rfl
theorem nM.leR {s0 s s' : AS} {X : AV} {TS : List (al × AV)} (h : nM s0 s X TS) (k : s.le s') : nM s0 s' X TS :=
 ⟨⟨fun p hp=>(h.xs.buf p hp).le k,h.xs.new,h.xs.sep⟩,h.le.trans k,h.row.le k,h.NF,h.RG⟩
def mA (n : al) : Prop:=n.name.length≤2 ^ 45∧n.parent.length≤2 ^ 45∧n.jk.length≤2 ^ 42
theorem zu (t : List al) (ht : t.length≤2 ^ 30) (hw : ∀ n ∈ t,mA n) (s : AS) : ai prog Γ 109 [aZ t] s (fun r s'=>∃ TS,TS.map (·.1) = t∧nM s s' r TS):=by
 refine aa func109 rfl ntmps109 results109 (by simp) ?_
 have dw:=fun i (h : i < t.length)=>dm (t:=t) h
 have hnW : ∀ i (h : i < t.length),mA (nd t i):=fun i h=>by rw [tN h]; exact hw _ (List.getElem_mem h)
 have dN : ∀ i (h : i < t.length),t.take (i + 1) = t.take i ++ [nd t i]:=fun i h=>by rw [List.take_succ_eq_append_getElem h,tN h]
 unfold aZ at *
 generalize aQ al.cells t = X at *
 refine jA ?_
 refine jA ?_
 refine wK fun K hK=>?_
 refine jA ?_
 refine ag ?_
 refine aC (fun E s2=>∃ (i : Nat) (x : AV) (TS : List (al × AV)),i≤t.length∧E 8 = .v (.int .i64 i)∧E 7 = .v (.int .i64 t.length)∧E 6 = .sl 5 t.length X .any∧E 3 = x∧TS.map (·.1) = t.take i∧nM s s2 x TS)
  (fun E _=>match E 8 with | .v (.int _ i)=>t.length - i.toNat | _=>0) ?_ ?_
 ·exact ⟨0,_,[],Nat.zero_le _,by simp only [aF,Nc,↓reduceIte]; rfl,by simp only [aF,Nc,↓reduceIte],by simp only [aF,Nc,↓reduceIte],by simp only [aF,Nc,↓reduceIte]; rfl,rfl,nM.nil s⟩
 ·rintro E1 s2 ⟨i,x,TS,hi,g8,g7,g6,g3,hT,hx⟩ -
  by_cases aX : i < t.length
  ·refine jB (Ai @g8 (Ai @g7 (Ai @ax (decide_eq_true aX)))) ?_
   refine wK fun K2 aV=>?_
   refine jE ?_
   refine ab ?_
   refine aV _ _ ?_;clear aV K2
   refine wK fun K3 br=>?_
   refine ag ?_
   have iu:=dw i aX
   have hN:=hnW i aX
   have eh:=dN i aX
   generalize nd t i = N at *
   have XM : TS.length = i:=by have:=congrArg List.length hT; simp at this; omega
   have cz : (0 : Int)≤((i : Nat) : Int):=by omega
   obtain ⟨nk,nm,ny,n8,nu⟩:=N
   unfold al.cells at iu
   simp only at iu
   refine aY 5 (by decide) ?_
   intro K hK
   simp only [↓DM,bY,DX,Nz,↓DN,Qa,Qb,Qc,Qd,Qe,Qf,Qg,Qh,reduceCtorEq,↓reduceIte,Na,Nb,Nc,Nk,Nf,Ng,Nh,Za,Zb,Zc,TT,g6,g8,ax,aX,cz,iu,aH]
   intro o1 h1
   refine hK _ _ o1 _ (by simp only [aF,Nc,↓reduceIte]) h1 ?_
   clear hK K h1
   refine xi rfl (by decide) ?_
   intro ops
   simp only [↓DM,bY,DX,Nz,↓DN,Qa,Qb,Qc,Qd,Qe,Qf,Qg,Qh,reduceCtorEq,↓reduceIte,Na,Nb,Nc,Nk,Nf,Ng,Nh,Za,Zb,Zc,TT,g3]
   refine ad (uh ⟨nk,nm,ny,n8,nu⟩ hN.1 hN.2.1 hN.2.2 _) ?_
   rintro r s3 ⟨xn,rfl,hb,kE,gb⟩
   unfold fO at *
   simp only [↓DM,bY,DX,Nz,↓DN,Qa,Qb,Qc,Qd,Qe,Qf,Qg,Qh,reduceCtorEq,↓reduceIte,Na,Nb,Nc,Nk,Nf,Ng,Nh,Za,Zb,Zc,TT,g3,Io]
   have me : s2.le s3:=gb
   have vx : mn 5 s3 x i (aQ fO TS):=by
    have:=hx.row.le gb
    rwa [XM] at this
   have ln : xn.one = true:=by
    rcases hb with ⟨_,_,rfl | rfl | rfl⟩ | ⟨_,_,_,rfl,_⟩ <;> rfl
   refine ⟨_,fun G a w hr=>kO (n:=i) (m:=1) (cs:=aQ fO TS) (ds:=fO (⟨nk,nm,ny,n8,nu⟩,xn)) (e:=54) rfl underlying22 (by simp only [↓DN,Qa,Qb,Qc,Qd,Qe,Qf,Qg,Qh,reduceCtorEq,↓reduceIte,Na,Nb,Nc,Nk,Nf,Ng,Nh,Za,Zb,Zc,TT]; try rfl) T.z54 (by rw [T.Fg]; decide) (by rw [T.Fg]; rfl) (by rw [T.Fg]; simp only [↓DN,Qa,Qb,Qc,Qd,Qe,Qf,Qg,Qh,reduceCtorEq,↓reduceIte,Na,Nb,Nc,Nk,Nf,Ng,Nh,Za,Zb,Zc,TT,im,aL,aF,Nc,↓reduceIte]; rfl) (by decide) (by rw [T.Y3]; omega) (by omega) (by simp only [fO,List.all_cons,List.all_nil,ln]; rfl) (by rw [T.Fg]; exact vx) hr.eval hr.st,?_⟩
   rw [T.Fg]
   rintro r s4 ⟨ob,cap,rest,rfl,gB,CJ,tw,rp,rfl⟩
   have xbg : s3.av ob = none∨∃ qH,x = .iv ob 0 5 TS.length qH:=by
    rw [XM]; exact rp
   have P3:=(nM.leR hx gb).push (p:=(⟨nk,nm,ny,n8,nu⟩,xn)) (ob:=ob) (cap:=cap) (rest:=rest) hb
    (fun o ho=>⟨AS.le_none hx.le (kE o ho),(fun q hq e=>by obtain ⟨ds,hd⟩:=(hx.xs.buf q hq).some e; rw [kE o ho] at hd; cases hd),(fun e=>by obtain ⟨ds,hd⟩:=hx.row.some e; rw [kE o ho] at hd; cases hd)⟩)
    xbg (by rw [XM]; exact gB) CJ (by rw [XM]; exact tw)
   rw [XM,List.append_assoc] at P3
   refine jV @g3 br ?_;clear br K3
   refine jD (Ai @g8 (bj i (by omega))) ?_
   refine ⟨⟨i + 1,.iv ob 0 5 (i + 1) cap,TS ++ [(⟨nk,nm,ny,n8,nu⟩,xn)],by omega,by simp only [aF,Nc,↓reduceIte],by simp only [aF,g7,Nc,↓reduceIte],by simp only [aF,g6,Nc,↓reduceIte],by simp only [aF,Nc,↓reduceIte],by rw [List.map_append,hT,eh]; rfl,P3⟩,?_⟩
   simp only [g8,aF,↓reduceIte]
   omega
  ·refine jB (Ai @g8 (Ai @g7 (Ai @ax (decide_eq_false aX)))) ?_
   refine wK fun K2 aV=>?_
   refine jF ?_
   refine aA ?_
   simp only [az,ar,if_true]
   refine hK _ _ ?_;clear hK aV K2 K
   obtain rfl : i = t.length:=by omega
   refine jB @g3 ?_
   refine jI ?_
   exact ⟨_,_,AV.aB.refl _,AS.le.refl _,TS,by rw [hT,List.take_length],hx⟩
end Go.Proofs.YtbiefppedlodiaaGreatDoor
namespace Go.AM
open Go
def xeJ (L : Nat) (t : List al) : Prop:=Fit L∧t.length = 2 * L - 1 ∧
    (∀ i,i < 2 * L - 1→(nd t i).right∧((nd t i).kind = 0∨((nd t i).kind = 1↔i % 2 = 0))∧∀ u ∈ (nd t i).jk,(lo i : Int)≤u∧u≤(hi i : Int)∧0≤u∧u < (L : Int)∧(nd t (2 * u.toNat)).kind = 1) ∧
    (∀ a b,a < b→b < L→(nd t (2 * a)).kind = 1→(nd t (2 * b)).kind = 1→(nd t (2 * b)).name≠(nd t (2 * a)).name)
theorem xI {t : List al} {name : List UInt8} (h : ¬ 0≤nj t name 0) {L : Nat} (hL : Fit L) (hlen : t.length = 2 * L - 1) {j : Nat} (hj : j < L) (hk : (nd t (2 * j)).kind = 1) : (nd t (2 * j)).name≠name:=by
  intro e;have hl:=Kc hL hlen;have hb:=hL.le;have h1:=tQ (fun j=>decide (dW t j∧(nd t (2 * j)).name = name)) (gE t - 0) 0;have h2 : decide (0≤nj t name 0) = true:=h1.2 ⟨j,Nat.zero_le _,by unfold gE; omega,decide_eq_true ⟨(KC hl _).2 ⟨hj,hk⟩,e⟩⟩;exact h (of_decide_eq_true h2)
def XN (key : Nat) : Prop:=2≤(key : Int)∧(key : Int)≤2305843009213693949
instance (key : Nat) : Decidable (XN key):=by unfold XN; infer_instance
open Go Go.RowKit
variable {P : Program} {Γ : Nat→List AV} {s : AS}
theorem FT {α : Type} {c : α→List AV} {l : List α} {u : Nat} (h : u < l.length) : aQ c l = aQ c (l.take u) ++ c l[u] ++ aQ c (l.drop (u + 1)):=by
  have e : l = l.take u ++ l[u] :: l.drop (u + 1):=(by rw [List.getElem_cons_drop,List.take_append_drop]);have e2 : aQ c l = aQ c (l.take u ++ l[u] :: l.drop (u + 1)):=(by rw [← e]);rw [e2];simp only [aQ,List.map_append,List.map_cons,List.flatten_append,List.flatten_cons,List.append_assoc]
theorem yb {α : Type} {c : α→List AV} {k : Nat} (hk : ∀ a,(c a).length = k) {l : List α} {u : Nat} (h : u < l.length) (a : α) (rest : List AV) : bm (aQ c l ++ rest) (u * k) (c a) = aQ c (l.set u a) ++ rest:=by
  have hl : (aQ c (l.take u)).length = u * k:=(by rw [cS hk,List.length_take]; congr 1; omega);have e2 : aQ c (l.set u a) = aQ c (l.take u) ++ c a ++ aQ c (l.drop (u + 1)):=by
    rw [List.set_eq_take_append_cons_drop,if_pos h];simp [aQ]
  rw [e2,FT h];rw [Mac.l9 _ _ _ (by simp [hk,hl])];have a1 : (aQ c (l.take u) ++ c l[u] ++ aQ c (l.drop (u + 1)) ++ rest).take (u * k) = aQ c (l.take u):=by
    rw [List.append_assoc,List.append_assoc,← hl,List.take_left]
  have a2 : (aQ c (l.take u) ++ c l[u] ++ aQ c (l.drop (u + 1)) ++ rest).drop (u * k + (c a).length) = aQ c (l.drop (u + 1)) ++ rest:=by
    have e3 : u * k + (c a).length = (aQ c (l.take u) ++ c l[u]).length:=(by rw [List.length_append,hl,hk,hk]);rw [e3,List.append_assoc _ _ rest,List.drop_left]
  rw [a1,a2];simp
end Go.AM
namespace Go.Proofs.YtbiefppedlodiaaGreatDoor
open Go Go.AM Go.Proofs Tryz
variable {Γ : Nat→List AV}
instance (t : List al) : Decidable (dS t):=by unfold dS; infer_instance
def tM (n : al) : Prop:=n.name.length≤40∧n.parent.length≤60∧n.jk.length≤40
def KU (t : List al) : Prop:=t.length≤63∧∀ n ∈ t,tM n
instance (n : al) : Decidable (tM n):=by unfold tM; infer_instance
instance (t : List al) : Decidable (KU t):=by unfold KU; infer_instance
end Go.Proofs.YtbiefppedlodiaaGreatDoor
namespace Go.AM
open Go
theorem dU.tree {gy : List AV} (h : dU (.slice 5 (.struct (.cons Bk (.cons Cr (.cons (.int .u64) (.cons Cr (.cons (.slice 1 Bk) .nil))))))) gy) : ∃ t : List al,gy = [aZ t]∧∀ n ∈ t,n.key < 2 ^ 64:=by
  obtain ⟨els,rfl,_,bR⟩:=dU.rows h;have key : ∀ els : List (List AV),(∀ el ∈ els,el.length = 5∧dU (.struct (.cons Bk (.cons Cr (.cons (.int .u64) (.cons Cr (.cons (.slice 1 Bk) .nil)))))) el)→∃ t : List al,els = t.map al.cells∧∀ n ∈ t,n.key < 2 ^ 64:=by
    intro els;induction els with
    | nil=>intro _; exact ⟨[],rfl,fun n hn=>by cases hn⟩
    | cons e els ih =>
      intro h;obtain ⟨t,rfl,h2⟩:=ih (fun el yB=>h el (by simp [yB]));obtain ⟨_,h1⟩:=h e (by simp);obtain ⟨N,rfl,hN⟩:=dU.node h1;refine ⟨N :: t,rfl,fun n hn=>?_⟩;rcases List.mem_cons.1 hn with rfl | hn
      · exact hN
      · exact h2 n hn
  obtain ⟨t,rfl,h2⟩:=key els bR;refine ⟨t,?_,h2⟩;unfold aZ aQ;rw [List.length_map]
def N9 (k : Nat) (l : List UInt8) : List UInt8:=be k l.length ++ l
def kW.body (p : kW) : List UInt8:=if p.kind = 1 then N9 1 p.name ++ (be 8 p.key ++ be 8 p.init) else if p.kind = 2 then be 1 p.leaf.toNat ++ be 8 p.key else be 1 p.leaf.toNat
def kW.text (p : kW) : List UInt8:=be 1 p.kind.toNat ++ p.body
def eb.XO (x : eb) : List UInt8:=be 8 x.iW ++ N9 2 x.text
def KV {α : Type} (f : α→List UInt8) (l : List α) : List UInt8:=(l.map f).flatten
def cu.text (x : cu) : List UInt8:=be 8 x.key ++ (be 1 x.di.length ++ KV eb.XO x.di)
def dM.text (x : dM) : List UInt8:=be 8 x.key ++ (N9 1 x.parent ++ (be 1 x.steps.length ++ KV cu.text x.steps))
def cD.tail (c : cD) : List UInt8:=if c.vX then be 1 1 ++ c.path.text else be 1 0
def cD.content (c : cD) : List UInt8 :=
  be 1 1 ++ (N9 1 c.group ++ (be 8 c.gQ.toNat ++ (be 1 c.BP.toNat ++ (be 1 c.props.length ++ (KV kW.text c.props ++ c.tail)))))
def cD.text (c : cD) : List UInt8:=c.content ++ (N9 1 c.BQ ++ N9 1 c.Fy)
def eb.fits (p : eb) : Prop:=p.text.length≤100
def cu.fits (p : cu) : Prop:=(∀ x ∈ p.di,x.fits)∧True∧p.di.length≤32
def dM.fits (p : dM) : Prop:=(∀ x ∈ p.steps,x.fits)∧True∧p.parent.length≤200∧p.steps.length≤20
end Go.AM
namespace Go.AM
namespace Kdf
variable (aK info : List UInt8)
def mH : Nat→List UInt8
  | 0=>[]
  | i + 1=>Mac.tag aK (mH i ++ info ++ [UInt8.ofNat (i + 1)])
def row : Nat→List UInt8
  | 0=>[]
  | i + 1=>row i ++ mH aK info (i + 1)
theorem sO (i : Nat) : (mH aK info (i + 1)).length = 32:=Mac.lL _ _
theorem cS : ∀ i : Nat,(row aK info i).length = 32 * i
  | 0=>rfl
  | i + 1=>by rw [row,List.length_append,cS i,sO]; omega
def rounds (n : Nat) : Nat:=(n + 31) / 32
def expand (n : Nat) : List UInt8:=(row aK info (rounds n)).take n
theorem ui (n : Nat) : n≤32 * rounds n:=by unfold rounds; omega
theorem gu (n : Nat) : (expand aK info n).length = n:=by
  rw [expand,List.length_take,cS];have:=ui n;omega
theorem due (n i : Nat) : 32 * i < n↔i < rounds n:=by unfold rounds; omega
def ok (n : Int) : Bool:=decide (0≤n) && decide (n≤8160)
def get (n : Int) : List UInt8:=if ok n = true then expand aK info n.toNat else []
end Kdf
namespace Kdf
def Cv : List UInt8:=[109,108,115,32]
def fits (l c : List UInt8) (n : Int) : Bool:=decide (l.length≤251) && decide (c.length≤65535) && decide (0≤n) && decide (n≤8160)
def text (l c : List UInt8) (n : Nat) : List UInt8:=be 2 n ++ (be 1 (Cv ++ l).length ++ (Cv ++ l)) ++ (be 2 c.length ++ c)
def label (aK l c : List UInt8) (n : Int) : List UInt8:=if fits l c n = true then expand aK (text l c n.toNat) n.toNat else []
def derive (aK l : List UInt8) : List UInt8:=label aK (l.take 251) [] 32
def Te (l c : List UInt8) (n : Int) : List UInt8 × Bool:=dj 2 c (dj 1 (Cv ++ l) (bd 2 n ([],false)))
theorem Oa {k n : Nat} {st : List UInt8 × Bool} (h : st.2 = true) : (dQ k n st).2 = true:=by rw [dQ,if_pos h]; exact h
theorem Ip {k : Nat} {n : Int} {st : List UInt8 × Bool} (h : st.2 = true) : (bd k n st).2 = true:=by
  unfold bd;split
  · exact Oa h
  · rfl
theorem GS {m : List UInt8} {st : List UInt8 × Bool} (h : st.2 = true) : (dR m st).2 = true:=by rw [dR,if_pos h]; exact h
theorem yc {k : Nat} {m : List UInt8} {st : List UInt8 × Bool} (h : st.2 = true) : (dj k m st).2 = true:=GS (Ip h)
theorem yd {k : Nat} {n : Int} {st : List UInt8 × Bool} (h : ¬ (0≤n∧n < 2 ^ (8 * k))) : (bd k n st).2 = true:=by rw [bd,if_neg h]
theorem AO {k : Nat} {m : List UInt8} {st : List UInt8 × Bool} (h : ¬ (m.length : Int) < 2 ^ (8 * k)) : (dj k m st).2 = true:=GS (yd fun h'=>h h'.2)
theorem KW (l c : List UInt8) (n : Int) (h0 : 0≤n) (h1 : n≤65535) (hl : l.length≤251) (hc : c.length≤65535) : Te l c n = (text l c n.toNat,false):=by
  obtain ⟨m,rfl⟩ : ∃ m : Nat,n = (m : Int):=⟨n.toNat,by omega⟩;have hm : (Cv ++ l).length = 4 + l.length:=(by simp [Cv]; omega);unfold Te;rw [rX (by omega),uJ (by rw [hm]; omega),uJ (by omega)];simp [text]
theorem Ob (l c : List UInt8) (n : Int) (h : ¬ (0≤n∧n≤65535∧l.length≤251∧c.length≤65535)) : (Te l c n).2 = true:=by
  have hm : (Cv ++ l).length = 4 + l.length:=(by simp [Cv]; omega);unfold Te;by_cases h0 : 0≤n∧n < 2 ^ (8 * 2)
  · by_cases h1 : ((Cv ++ l).length : Int) < 2 ^ (8 * 1)
    · refine AO fun h2=>h ?_;simp only [Nat.reduceMul] at h0 h1 h2;refine ⟨h0.1,by omega,by omega,by omega⟩
    · exact yc (AO h1)
  · exact yc (yc (yd h0))
theorem mq (k : Nat) (m : List UInt8) (st : List UInt8 × Bool) : (dj k m st).1.length≤st.1.length + k + m.length:=by
  have:=eu k (m.length : Int) st;unfold dj dR;split
  · omega
  · simp only [List.length_append];omega
end Kdf
namespace Sch
def RY : List UInt8:=[101,112,111,99,104]
def KX : List UInt8:=[119,101,108,99,111,109,101]
def Iq : List UInt8:=[101,120,112,111,114,116,101,114]
def KY : List UInt8:=[99,111,110,102,105,114,109]
def Oc : List UInt8:=[109,101,109,98,101,114,115,104,105,112]
def XP : List UInt8:=[105,110,105,116]
def main (j : List UInt8) : List UInt8:=Mac.tag j (List.replicate 32 0)
def gQ (j c : List UInt8) : List UInt8:=Kdf.label (main j) RY c 32
def of (j c : List UInt8) : List (List UInt8):=[j,Kdf.derive (main j) KX,Kdf.derive (gQ j c) Iq,Kdf.derive (gQ j c) KY,Kdf.derive (gQ j c) Oc,Kdf.derive (gQ j c) XP]
end Sch
namespace Aes
def Ml (a : UInt8) : UInt8:=(a <<< (1 : UInt8)) ^^^ ((27 : UInt8) &&& ((0 : UInt8) - (a >>> (7 : UInt8))))
def gm : Nat→UInt8→UInt8→UInt8→UInt8
  | 0,o,_,_=>o
  | f + 1,o,a,b=>gm f (o ^^^ (a &&& ((0 : UInt8) - (b &&& 1)))) (Ml a) (b >>> 1)
theorem GU : ∀ (f : Nat) (o a : UInt8),gm f o a 0 = o
  | 0,o,a=>rfl
  | f + 1,o,a=>by
    have e : o ^^^ (a &&& ((0 : UInt8) - ((0 : UInt8) &&& 1))) = o:=by
      have : (0 : UInt8) - ((0 : UInt8) &&& 1) = 0:=(by decide);rw [this]; simp
    rw [gm,e,show (0 : UInt8) >>> 1 = 0 from by decide];exact GU f o _
def pw : Nat→UInt8→UInt8→Nat→UInt8
  | 0,o,_,_=>o
  | f + 1,o,a,n=>pw f (if n % 2 = 1 then gm 8 0 o a else o) (gm 8 0 a a) (n / 2)
theorem GW : ∀ (f : Nat) (o a : UInt8),pw f o a 0 = o
  | 0,_,_=>rfl
  | f + 1,o,a=>by rw [pw]; exact GW f o _
def inv (a : UInt8) : UInt8:=pw 8 1 a 254
def XQ (x : UInt8) (i : Nat) : UInt8:=UInt8.ofNat (x.toNat * 2 ^ i) ||| UInt8.ofNat (x.toNat / 2 ^ (8 - i))
def FU (x : UInt8) : Nat→UInt8
  | 0=>99 ^^^ x
  | k + 1=>FU x k ^^^ XQ x (k + 1)
def box (c : UInt8) : UInt8:=FU (inv c) 4
def sb : List UInt8:=[99,124,119,123,242,107,111,197,48,1,103,43,254,215,171,118,202,130,201,125,250,89,71,240,173,212,162,175,156,164,114,192,183,253,147,38,54,63,247,204,52,165,229,241,113,216,49,21,4,199,35,195,24,150,5,154,7,18,128,226,235,39,178,117,9,131,44,26,27,110,90,160,82,59,214,179,41,227,47,132,83,209,0,237,32,252,177,91,106,203,190,57,74,76,88,207,208,239,170,251,67,77,51,133,69,249,2,127,80,60,159,168,81,163,64,143,146,157,56,245,188,182,218,33,16,255,243,210,205,12,19,236,95,151,68,23,196,167,126,61,100,93,25,115,96,129,79,220,34,42,144,136,70,238,184,20,222,94,11,219,224,50,58,10,73,6,36,92,194,211,172,98,145,149,228,121,231,200,55,109,141,213,78,169,108,86,244,234,101,122,174,8,186,120,37,46,28,166,180,198,232,221,116,31,75,189,139,138,112,62,181,102,72,3,246,14,97,53,87,185,134,193,29,158,225,248,152,17,105,217,142,148,155,30,135,233,206,85,40,223,140,161,137,13,191,230,66,104,65,153,45,15,176,84,187,22]
def S (x : UInt8) : UInt8:=sb.getD x.toNat 0
theorem qZ : sb.length = 256:=by decide +kernel
theorem RZ : ∀ i,i < 256→box (UInt8.ofNat i) = sb.getD i 0:=by decide +kernel
def IP : Nat→UInt8
  | 0=>1
  | r + 1=>Ml (IP r)
def nx (k : List UInt8) (p : UInt8) : List UInt8 :=
  match k with
  | [k0,k1,k2,k3,k4,k5,k6,k7,k8,k9,Gv,P4,HS,Od,IL,Fh] =>
    let a0:=(k0 ^^^ S Od) ^^^ p
    let a1:=k1 ^^^ S IL
    let a2:=k2 ^^^ S Fh
    let a3:=k3 ^^^ S HS
    let b0:=k4 ^^^ a0
    let b1:=k5 ^^^ a1
    let b2:=k6 ^^^ a2
    let b3:=k7 ^^^ a3
    let c0:=k8 ^^^ b0
    let c1:=k9 ^^^ b1
    let c2:=Gv ^^^ b2
    let c3:=P4 ^^^ b3
    [a0,a1,a2,a3,b0,b1,b2,b3,c0,c1,c2,c3,HS ^^^ c0,Od ^^^ c1,IL ^^^ c2,Fh ^^^ c3]
  | _=>[]
def kr (key : List UInt8) : Nat→List UInt8
  | 0=>key
  | r + 1=>nx (kr key r) (IP r)
theorem Ca {α : Type} {l : List α} (h : l.length = 16) : ∃ k0 k1 k2 k3 k4 k5 k6 k7 k8 k9 Gv P4 HS Od IL Fh,l = [k0,k1,k2,k3,k4,k5,k6,k7,k8,k9,Gv,P4,HS,Od,IL,Fh]:=by
  match l,h with
  | [k0,k1,k2,k3,k4,k5,k6,k7,k8,k9,Gv,P4,HS,Od,IL,Fh],_=>exact ⟨k0,k1,k2,k3,k4,k5,k6,k7,k8,k9,Gv,P4,HS,Od,IL,Fh,rfl⟩
theorem R3 {k : List UInt8} (h : k.length = 16) (p : UInt8) : (nx k p).length = 16:=by
  obtain ⟨k0,k1,k2,k3,k4,k5,k6,k7,k8,k9,Gv,P4,HS,Od,IL,Fh,rfl⟩:=Ca h;rfl
theorem re {key : List UInt8} (h : key.length = 16) : ∀ r,(kr key r).length = 16
  | 0=>h
  | r + 1=>R3 (re h r) _
theorem R4 {k : List UInt8} (h : k.length = 16) (p : UInt8) (j : Nat) (hj : j < 4) : (nx k p).getD j 0 = if j = 0 then (k.getD j 0 ^^^ S (k.getD (12 + (j + 1) % 4) 0)) ^^^ p else k.getD j 0 ^^^ S (k.getD (12 + (j + 1) % 4) 0):=by
  obtain ⟨k0,k1,k2,k3,k4,k5,k6,k7,k8,k9,Gv,P4,HS,Od,IL,Fh,rfl⟩:=Ca h;rcases (show j = 0∨j = 1∨j = 2∨j = 3 by omega) with rfl | rfl | rfl | rfl <;> rfl
theorem Oe {k : List UInt8} (h : k.length = 16) (p : UInt8) (j : Nat) (h4 : 4≤j) (hj : j < 16) : (nx k p).getD j 0 = k.getD j 0 ^^^ (nx k p).getD (j - 4) 0:=by
  obtain ⟨k0,k1,k2,k3,k4,k5,k6,k7,k8,k9,Gv,P4,HS,Od,IL,Fh,rfl⟩:=Ca h;rcases (show j = 4∨j = 5∨j = 6∨j = 7∨j = 8∨j = 9∨j = 10∨j = 11∨j = 12∨j = 13∨j = 14∨j = 15 by omega) with rfl | rfl | rfl | rfl | rfl | rfl | rfl | rfl | rfl | rfl | rfl | rfl <;> rfl
def ak (key : List UInt8) (n : Nat) : UInt8:=(kr key (n / 16)).getD (n % 16) 0
theorem R5 {key : List UInt8} (h : key.length = 16) (r j : Nat) (hj : j < 4) : ak key (16 * (r + 1) + j) = if j = 0 then (ak key (16 * r + j) ^^^ S (ak key (16 * r + (12 + (j + 1) % 4)))) ^^^ IP r else ak key (16 * r + j) ^^^ S (ak key (16 * r + (12 + (j + 1) % 4))):=by
  have e1 : (16 * (r + 1) + j) / 16 = r + 1:=(by omega);have e2 : (16 * (r + 1) + j) % 16 = j:=(by omega);have e3 : (16 * r + j) / 16 = r:=(by omega);have e4 : (16 * r + j) % 16 = j:=(by omega);have e5 : (16 * r + (12 + (j + 1) % 4)) / 16 = r:=(by omega);have e6 : (16 * r + (12 + (j + 1) % 4)) % 16 = 12 + (j + 1) % 4:=(by omega);simp only [ak,e1,e2,e3,e4,e5,e6];exact R4 (re h r) (IP r) j hj
theorem Of {key : List UInt8} (h : key.length = 16) (r j : Nat) (h4 : 4≤j) (hj : j < 16) : ak key (16 * (r + 1) + j) = ak key (16 * r + j) ^^^ ak key (16 * (r + 1) + (j - 4)):=by
  have e1 : (16 * (r + 1) + j) / 16 = r + 1:=(by omega);have e2 : (16 * (r + 1) + j) % 16 = j:=(by omega);have e3 : (16 * r + j) / 16 = r:=(by omega);have e4 : (16 * r + j) % 16 = j:=(by omega);have e5 : (16 * (r + 1) + (j - 4)) / 16 = r + 1:=(by omega);have e6 : (16 * (r + 1) + (j - 4)) % 16 = j - 4:=(by omega);simp only [ak,e1,e2,e3,e4,e5,e6];exact Oe (re h r) (IP r) j h4 hj
theorem R6 {key : List UInt8} (n : Nat) (hn : n < 16) : ak key n = key.getD n 0:=by
  rw [ak,Nat.div_eq_of_lt hn,Nat.mod_eq_of_lt hn]; rfl
def sh (b : List UInt8) (n : Nat) : UInt8:=S (b.getD (4 * ((n / 4 + n % 4) % 4) + n % 4) 0)
def mx (c : Nat→UInt8) (i : Nat) : UInt8:=(((Ml (c i) ^^^ Ml (c ((i + 1) % 4))) ^^^ c ((i + 1) % 4)) ^^^ c ((i + 2) % 4)) ^^^ c ((i + 3) % 4)
def GX (b : List UInt8) (last : Bool) : List UInt8:=(List.range 16).map fun n=>if last then sh b n else mx (fun i=>sh b (4 * (n / 4) + i)) (n % 4)
def add (b k : List UInt8) : List UInt8:=(List.range 16).map fun n=>b.getD n 0 ^^^ k.getD n 0
def state (key b : List UInt8) : Nat→List UInt8
  | 0=>add b (kr key 0)
  | r + 1=>add (GX (state key b r) (r + 1 == 10)) (kr key (r + 1))
def block (key b : List UInt8) : List UInt8:=state key b 10
theorem Cb (b : List UInt8) (l : Bool) : (GX b l).length = 16:=by simp [GX]
theorem Cc (b k : List UInt8) : (add b k).length = 16:=by simp [add]
theorem mE (key b : List UInt8) : ∀ r,(state key b r).length = 16
  | 0=>Cc _ _
  | r + 1=>Cc _ _
theorem AP (key b : List UInt8) : (block key b).length = 16:=mE key b 10
theorem uj {α : Type} (f : Nat→α) (N n : Nat) (d : α) (h : n < N) : ((List.range N).map f).getD n d = f n:=by
  simp [List.getD_eq_getElem?_getD,h]
theorem GY (b : List UInt8) (l : Bool) (n : Nat) (h : n < 16) : (GX b l).getD n 0 = if l then sh b n else mx (fun i=>sh b (4 * (n / 4) + i)) (n % 4):=uj _ _ _ _ h
def first (aw : List UInt8) : Nat:=gM (aw.drop 12)
def D3 (aw : List UInt8) (i : Nat) : List UInt8:=aw.take 12 ++ be 4 ((first aw + i) % 4294967296)
def GZ (key aw : List UInt8) (p : Nat) : UInt8:=(block (key.take 16) (D3 aw (p / 16))).getD (p % 16) 0
def mask (key aw text : List UInt8) : List UInt8:=(List.range text.length).map fun p=>text.getD p 0 ^^^ GZ key aw p
theorem mF (key aw text : List UInt8) : (mask key aw text).length = text.length:=by simp [mask]
theorem ye (key aw text : List UInt8) (p : Nat) (h : p < text.length) : (mask key aw text).getD p 0 = text.getD p 0 ^^^ GZ key aw p:=uj _ _ _ _ h
theorem Ir (key aw text : List UInt8) : mask key aw (mask key aw text) = text:=by
  apply List.ext_getElem
  · simp [mask]
  · intro p h1 h2;have hp : p < text.length:=h2;have e:=ye key aw (mask key aw text) p (by rw [mF]; exact hp);rw [ye key aw text p hp,UInt8.xor_assoc,UInt8.xor_self,UInt8.xor_zero] at e;rw [List.getD_eq_getElem?_getD,List.getElem?_eq_getElem h1,List.getD_eq_getElem?_getD,List.getElem?_eq_getElem h2] at e;simpa using e
def tag (key aw beside masked : List UInt8) : List UInt8:=(Mac.tag (key.drop 16) (be 4 beside.length ++ (beside ++ (aw ++ masked)))).take 16
theorem lL (key aw beside masked : List UInt8) : (tag key aw beside masked).length = 16:=by simp [tag,Mac.lL]
def dF (key aw beside text : List UInt8) : List UInt8:=mask key aw text ++ tag key aw beside (mask key aw text)
end Aes
namespace Vault
def yf : List UInt8:=[110,111,110,99,101]
def ctx (g : List UInt8) (e : Nat) : List UInt8:=be 1 g.length ++ g ++ be 8 e
def k0 : List UInt8:=[169,244,63,67,64,52,17,249,117,86,100,57,122,167,125,1,230,91,103,131,115,144,199,68,248,159,166,218,250,248,1,114,135,15,162,208,108,252,211,18,83,148,90,178,179,251,67,14]
def n3 : List UInt8:=[8,190,219,198,217,21,206,227,25,6,89,27,186,224,186,54]
def n4 : List UInt8:=[184,102,163,253,77,158,128,5,108,65,104,250,253,115,180,138]
def m3 : List UInt8:=[247,169,26,226,24,129,224,169,173,123,5,148,71,154,82,74,108,148,179,118,179,215,27,211,244,97,172,107,233,136,76,169]
def t3 : List UInt8:=[8,206,240,108,85,27,1,138,119,108,80,208,57,159,143,149]
end Vault
open Go
def xbh (l : List (List UInt8)) : AV:=.sl 1 l.length (l.map fun b=>aj b .any) .any
def KZ (l : List (List UInt8)) : Prop:=l.length≤12∧∀ b ∈ l,b.length≤4000
instance (l : List (List UInt8)) : Decidable (KZ l):=by unfold KZ; infer_instance
structure XR where
  kind : Int
  leaf : Int
  name : List UInt8
  key : Nat
def XR.cells (a : XR) : List AV:=[.v (.int .i64 a.kind),.v (.int .i64 a.leaf),aj a.name .any,.v (.int .u64 a.key)]
def xbi (t T : List al) (f : Int) (k : Nat) : Prop:=dS T∧(f = 0→bw T∨(T = t∧k = 3))
structure G7 where
  group : List UInt8
  gQ : Int
  tree : List al
  Og : List UInt8
  inter : List UInt8
  deriving DecidableEq
def G7.iO : G7:=⟨[],0,[],[],[]⟩
def G7.cells (s : G7) : List AV:=[aj s.group .any,.v (.int .i64 s.gQ),aZ s.tree,aj s.Og .any,aj s.inter .any]
def G7.right (s : G7) : Prop:=(1≤s.group.length∧s.group.length≤16)∧0≤s.gQ∧s.gQ≤1048576∧bw s.tree∧s.Og.length = 32∧s.inter.length = 32
instance (s : G7) : Decidable s.right:=by unfold G7.right; infer_instance
def G7.wf (s : G7) : Prop:=dS s.tree
def G7.text (s : G7) : List UInt8:=N9 1 s.group ++ (be 8 s.gQ.toNat ++ (Kv s.tree ++ (N9 1 s.Og ++ (N9 1 s.inter ++ []))))
abbrev Zz : Ty:=.slice 5 (.struct (.cons Bk (.cons Cr (.cons (.int .u64) (.cons Cr (.cons (.slice 1 Bk) .nil))))))
end Go.AM
namespace Go.Proofs.YtbiefppedlodiaaGreatDoor
open Go Go.AM Go.Proofs Tryz
variable {Γ : Nat→List AV}
theorem Oh (l : List UInt8) (i : Nat) (h : i < l.length) : (ByteArray.mk l.toArray)[i]? = some l[i]:=by
  rw [getElem?_pos (ByteArray.mk l.toArray) i (by simpa [dB] using h)];rfl
theorem mr {a b : Int} (h : a = b) : (a == b) = true:=by simpa using h
theorem lU {a b : Int} (h : a≠b) : (a == b) = false:=by simpa using h
theorem M7 {a : Nat} (h : a = 0) : ((a : Int) == 0) = true:=by subst h; rfl
theorem Gw {a : Nat} (h : a≠0) : ((a : Int) == 0) = false:=by simpa using h
theorem WD {a k : Nat} (h : a = k) : ((a : Int) == (k : Int)) = true:=by subst h; simp
theorem SY {a b : Int} (h : a≠b) : (a != b) = true:=by simpa using h
theorem eqI {a b : Int} (h : a = b) : (a != b) = false:=by simpa using h
theorem bj (i : Nat) (h : i < 9223372036854775807) : dP .i64 (i : Int) 1 = ((i + 1 : Nat) : Int):=by
  rw [eE (by omega)];rfl
def cD.fits (c : cD) : Prop:=c.props.length≤9223372036854775807∧c.path.steps.length≤9223372036854775807∧∀ x ∈ c.path.steps,x.di.length≤9223372036854775807
end Go.Proofs.YtbiefppedlodiaaGreatDoor
namespace Go.AM
open Go
def xgP (s0 s : AS) (x : AV) (l : List Int) : Prop:=x = .sl 1 l.length (l.map aM) .new∨∃ t e,x = .sl 1 l.length (l.map aM) (.own t e)∧s.own t = some e∧s0.own t = none
end Go.AM
namespace Go.Proofs.YtbiefppedlodiaaGreatDoor
open Go Go.AM Go.Proofs Tryz
variable {Γ : Nat→List AV}
def K9 (S : G7) : Prop:=(S.tree.length≤31∧S.group.length≤40∧S.Og.length≤60∧S.inter.length≤60)∧∀ n ∈ S.tree,tM n
instance (S : G7) : Decidable (K9 S):=by unfold K9; infer_instance
def cD.octets (c : cD) : List UInt8:=if c.right then c.text else []
def La : List UInt8:=List.replicate 32 0
def c0 : cD:=⟨[103],0,0,[],false,⟨0,[],[]⟩,La,La⟩
theorem PE {a b : Nat} (h : a≠b) : ((a : Int) != (b : Int)) = true:=by simp only [bne_iff_ne,ne_eq]; omega
theorem PF {a b : Nat} (h : a = b) : ((a : Int) != (b : Int)) = false:=by subst h; simp
end Go.Proofs.YtbiefppedlodiaaGreatDoor
namespace Go.AM
theorem yg {α : Type} {c : Prop} [Decidable c] {x : α} {y : Option α} (h : (if c then some x else y) = none) : ¬ c∧y = none:=by
  split at h
  · cases h
  · exact ⟨by assumption,h⟩
def yh (P : Int→Bool) (acc : List Int) (f : Int) : List Int:=if P f = true∧f ∉ acc then acc ++ [f] else acc
def iE (P : Int→Bool) (S : List Int) : List Int:=S.foldl (yh P) []
def Is (P : Int→Bool) (fresh : List Int) (n : Nat) : List Int:=((List.range n).map fun k=>((k : Nat) : Int)).filter fun x=>decide (x ∈ fresh) && P x
theorem It (P : Int→Bool) (S : List Int) : (iE P S).length≤S.length:=by
  have : ∀ (S acc : List Int),(S.foldl (yh P) acc).length≤acc.length + S.length:=by
    intro S;induction S with
    | nil=>simp
    | cons f S ih =>
      intro acc;rw [List.foldl_cons];have h1:=ih (yh P acc f);have h2 : (yh P acc f).length≤acc.length + 1:=(by unfold yh; split <;> simp);simp only [List.length_cons];omega
  simpa [iE] using this S []
theorem FV (P : Int→Bool) (S : List Int) (f : Int) : iE P (S ++ [f]) = yh P (iE P S) f:=by simp [iE]
theorem yi (P : Int→Bool) : ∀ (S acc : List Int),S.Pairwise (·≤·)→acc.Pairwise (· < ·)→(∀ a ∈ acc,∀ b ∈ S,a≤b) →
    (S.foldl (yh P) acc).Pairwise (· < ·)∧∀ x,x ∈ S.foldl (yh P) acc↔x ∈ acc∨(x ∈ S∧P x = true)
  | [],acc,_,h2,_=>by simp [h2]
  | f :: S,acc,h1,h2,h3=>by
    rw [List.pairwise_cons] at h1;rw [List.foldl_cons];by_cases hc : P f = true∧f ∉ acc
    · have e : yh P acc f = acc ++ [f]:=if_pos hc;rw [e];obtain ⟨i1,i2⟩:=yi P S (acc ++ [f]) h1.2 (by
        rw [List.pairwise_append];refine ⟨h2,by simp,fun a ha b hb=>?_⟩;simp only [List.mem_singleton] at hb;subst hb;have:=h3 a ha b (by simp);have : a≠b:=fun e=>hc.2 (e ▸ ha);omega) (by
        intro a ha b hb;simp only [List.mem_append,List.mem_singleton] at ha;rcases ha with ha | rfl
        · exact h3 a ha b (by simp [hb])
        · exact h1.1 b hb)
      refine ⟨i1,fun x=>?_⟩;rw [i2];simp only [List.mem_append,List.mem_cons,List.not_mem_nil,or_false];constructor
      · rintro ((a | rfl) | ⟨a,b⟩)
        · exact .inl a
        · exact .inr ⟨.inl rfl,hc.1⟩
        · exact .inr ⟨.inr a,b⟩
      · rintro (a | ⟨rfl | a,b⟩)
        · exact .inl (.inl a)
        · exact .inl (.inr rfl)
        · exact .inr ⟨a,b⟩
    · have e : yh P acc f = acc:=if_neg hc;rw [e];obtain ⟨i1,i2⟩:=yi P S acc h1.2 h2 (fun a ha b hb=>h3 a ha b (by simp [hb]));refine ⟨i1,fun x=>?_⟩;rw [i2];simp only [List.mem_cons];constructor
      · rintro (a | ⟨a,b⟩)
        · exact .inl a
        · exact .inr ⟨.inr a,b⟩
      · rintro (a | ⟨rfl | a,b⟩)
        · exact .inl a
        · by_cases hm : x ∈ acc
          · exact .inl hm
          · exact absurd ⟨b,hm⟩ hc
        · exact .inr ⟨a,b⟩
theorem Lb (P : Int→Bool) (S : List Int) (h : S.Pairwise (·≤·)) : (iE P S).Pairwise (· < ·)∧∀ x,x ∈ iE P S↔x ∈ S∧P x = true:=by
  have:=yi P S [] h (by simp) (by simp);simpa [iE] using this
theorem sP : ∀ {a b : List Int},a.Pairwise (· < ·)→b.Pairwise (· < ·)→(∀ x,x ∈ a↔x ∈ b)→a = b
  | [],b,_,_,h=>by
    cases b with
    | nil=>rfl
    | cons y b=>exact absurd ((h y).2 (by simp)) (by simp)
  | x :: a,[],_,_,h=>absurd ((h x).1 (by simp)) (by simp)
  | x :: a,y :: b,h1,h2,h=>by
    rw [List.pairwise_cons] at h1 h2;have TR : x = y:=by
      have hx:=(h x).1 (by simp);have hy:=(h y).2 (by simp);simp only [List.mem_cons] at hx hy;rcases hx with rfl | hx
      · rfl
      · rcases hy with rfl | hy
        · rfl
        · have:=h1.1 y hy;have:=h2.1 x hx;omega
    subst TR;rw [sP h1.2 h2.2 fun z=>?_];have:=h z;simp only [List.mem_cons] at this;constructor
    · intro hz;rcases this.1 (.inr hz) with rfl | k
      · have:=h1.1 z hz; omega
      · exact k
    · intro hz;rcases this.2 (.inr hz) with rfl | k
      · have:=h2.1 z hz; omega
      · exact k
theorem Oi (P : Int→Bool) (fresh : List Int) (n : Nat) (hP : ∀ x,P x = true→0≤x∧x < (n : Int)) : iE P (fresh.mergeSort fun x y=>decide (x≤y)) = Is P fresh n:=by
  have hs : (fresh.mergeSort fun x y=>decide (x≤y)).Pairwise (·≤·):=by
    have:=List.pairwise_mergeSort (le:=fun x y : Int=>decide (x≤y)) (by intro a b c; simp; omega) (by intro a b; simp; omega) fresh;simpa using this
  obtain ⟨h1,h2⟩:=Lb P _ hs;refine sP h1 ?_ fun x=>?_
  · unfold Is;refine List.Pairwise.filter _ ?_;rw [List.pairwise_map];exact (List.pairwise_lt_range).imp fun h=>by omega
  · rw [h2];unfold Is;simp only [List.mem_filter,List.mem_map,List.mem_range,Bool.and_eq_true,decide_eq_true_eq,List.mem_mergeSort];constructor
    · rintro ⟨a,b⟩;have:=hP x b;exact ⟨⟨x.toNat,by omega,by omega⟩,a,b⟩
    · rintro ⟨-,a,b⟩;exact ⟨a,b⟩
end Go.AM
namespace Go.Proofs.YtbiefppedlodiaaGreatDoor
open Go Go.AM Go.Proofs Tryz
variable {Γ : Nat→List AV}
def D4 (s0 s : AS) (r : AV) (T : List al) : Prop:=∃ O cap rest,r = .iv O 0 5 T.length cap∧s.av O = some (aQ al.cells T ++ rest)∧T.length≤cap∧s0.av O = none∧s0.le s
theorem Cd (t : List al) (h0 : t.length≠0) (ht : t.length≤2 ^ 30) (hw : ∀ n ∈ t,mA n) (s : AS) : ai prog Γ 109 [aZ t] s (fun r s'=>D4 s s' r t):=by
  refine ai.settle (zu t ht hw s) ?_;rintro r s' ⟨TS,hT,hO⟩;have hl : TS.length = t.length:=(by rw [← hT,List.length_map]);rcases hO.row with ⟨h1,_,_⟩ | ⟨O,cap,rest,rfl,hOb,eV,tw,A9,CJ⟩
  · exact absurd (hl ▸ h1) h0
  · obtain ⟨s1,k1,k2,k3⟩:=H9 (Γ:=Γ) (hO.NF O rfl) (.iv O 0 5 TS.length cap) TS [] s' hO.xs hO.le (hO.RG O rfl) (by simpa [aQ] using hOb);rw [List.nil_append,hT] at k2;rw [hl] at k1 A9;exact ⟨_,_,by rw [hl]; exact k1,O,cap,rest,rfl,k2,A9,hO.NF O rfl,k3⟩
theorem zw (l : List Int) (hl : l.length≤2 ^ 40) (s : AS) : ai prog Γ 111 [.pI 160 [.dc [.sl 1 l.length (l.map aM) .any]]] s (fun r s'=>r = aH (l.mergeSort fun x y=>decide (x≤y)) .any∧s' = s):=by
  have IH:=BC (Γ:=Γ) (l.map aM) l.length (by simp) hl;rw [List.map_map] at IH;refine ai.forget (ai.settle (BV (by kernel_rfl) IH hl s) ?_ (R:=fun r s'=>r = aH (l.mergeSort fun x y=>decide (x≤y)) .any∧s.le s')) fun r s' ⟨h1,h2⟩=>⟨s,h2,h1,rfl⟩;rintro r s' ⟨rp,rK,kE,hle⟩;rcases rp with ⟨h0,_,_⟩ | ⟨o,cap,rest,rfl,ho,eV,tw,A9,CJ⟩
  · have e : (l.mergeSort fun x y=>decide (x≤y)) = []:=List.eq_nil_of_length_eq_zero h0;rw [rK e,e];exact ⟨_,_,cw.aB AV.aI,rfl,hle⟩
  · exact ⟨_,_,cw.outer ho (by simp),rfl,AS.rE hle (kE o rfl)⟩
end Go.Proofs.YtbiefppedlodiaaGreatDoor
namespace Go.AM
theorem Lc (P : Int→Bool) (fresh : List Int) (n : Nat) : (Is P fresh n).length≤n:=by
  unfold Is;refine Nat.le_trans (List.length_filter_le _ _) ?_;simp
theorem FW {T : List al} {u : Nat} (hu : u < T.length) (k : Nat) (p : List UInt8) (rest : List AV) :
    ((aQ al.cells T ++ rest).set (u * 5 + 2) (.v (.int .u64 k))).set (u * 5 + 3) (aj p .any) = aQ al.cells (T.set u { nd T u with key:=k,parent:=p }) ++ rest:=by
  have h0:=yb (c:=al.cells) (k:=5) (fun n=>rfl) hu (nd T u) rest;have h1:=yb (c:=al.cells) (k:=5) (fun n=>rfl) hu { nd T u with key:=k,parent:=p } rest;have hs : T.set u (nd T u) = T:=(by rw [tN hu]; exact List.set_getElem_self hu);rw [hs] at h0;rw [← h1];generalize aQ al.cells T ++ rest = R at h0;generalize nd T u = N at *
  obtain ⟨a,b,c,d,e⟩:=N;simp only [al.cells,bm] at h0 ⊢;apply List.ext_getElem?;intro i;have hi:=congrArg (fun l=>l[i]?) h0;simp only [List.getElem?_set,List.length_set,Nat.add_assoc,Nat.reduceAdd] at hi ⊢;by_cases e3 : u * 5 + 3 = i
  · have e4 : ¬ u * 5 + 4 = i:=(by omega);simp only [if_pos e3,if_neg e4]
  · by_cases e2 : u * 5 + 2 = i
    · have e4 : ¬ u * 5 + 4 = i:=(by omega);simp only [if_neg e3,if_pos e2,if_neg e4]
    · simp only [if_neg e3,if_neg e2] at hi ⊢;exact hi.symm
end Go.AM
namespace Go.Proofs.YtbiefppedlodiaaGreatDoor
open Go Go.AM Go.Proofs Tryz
variable {Γ : Nat→List AV}
def eo (n : Nat) : AV:=.v (.int .u64 n)
def uV (l : List Nat) : AV:=.sl 1 l.length (l.map eo) .any
def R7 (t : List al) (fresh : List Int) (up : Nat) : List Int:=Is (fun x=>fo up x && decide (cF t x)) fresh (aU t)
def vw (t : List al) (leaf : Nat) (keys : List Nat) (fresh : List Int) : Nat→List al × List UInt8
 | 0=>(t,[])
 | i + 1 =>
  let j:=(aD leaf (aU t)).length - 1 - i
  let up:=(aD leaf (aU t)).getD j 0
  let p:=vw t leaf keys fresh i
  let b : al:=⟨2,[],keys.getD j 0,p.2,R7 t fresh up⟩
  (p.1.set up b,pF b (x8 t (cl (nodeAt leaf (aU t) j))))
theorem kU (t : List al) (leaf : Nat) (keys : List Nat) (fresh : List Int) : ∀ i,(vw t leaf keys fresh i).1.length = t.length
 | 0=>rfl
 | i + 1=>by simp only [vw,List.length_set]; exact kU t leaf keys fresh i
def iB (t : List al) (leaf key : Nat) (keys : List Nat) (fresh : List Int) : List al :=
 let p:=vw t leaf keys fresh (aD leaf (aU t)).length
 p.1.set (2 * leaf) { nd p.1 (2 * leaf) with key:=key,parent:=p.2 }
def XS (s : AS) (t : List al) (leaf : Nat) (keys : List Nat) (fresh : List Int) (O cap rf AQ qM : Nat) (rest : List AV) (i : Nat) (s' : AS) : Prop :=
 s.le s'∧s'.av rf = some [.iv O 0 5 t.length cap]∧s'.av AQ = some [aH (aP (cC leaf (aU t))) .any]∧s'.av qM = some [aj (vw t leaf keys fresh i).2 .any]∧s'.av O = some (aQ al.cells (vw t leaf keys fresh i).1 ++ rest)
theorem zx (dO : Γ 0 = dV Sha.H0) (gl : Γ 1 = Sha.K.map wV) (hG : Γ 3 = eS.map nH) (t : List al) (ht : dS t) (JY : t.length≤2 ^ 30) (hw : ∀ n ∈ t,mA n) (hr : bw t) (leaf : Nat) (hm : cF t leaf)
  (key : Nat) (keys : List Nat) (hk : keys.length = (aD leaf (aU t)).length) (fresh : List Int) (hf : fresh.length≤2 ^ 40) (s : AS) :
  ai prog Γ 50 [aZ t,.v (.int .i64 leaf),.v (.int .u64 key),uV keys,aH fresh .any] s (fun r s'=>D4 s s' r (iB t leaf key keys fresh)):=by
 refine xj func50 rfl ntmps50 results50 (by simp) ?_;have xbj : aU t≠0:=hr.1;obtain ⟨cL,lj⟩ : Fit (aU t)∧t.length = 2 * aU t - 1:=by
  rcases bT (t:=t) with h | h
  ·exact absurd h xbj
  ·exact h
 have oW:=cL.le;have G8 : leaf < aU t:=by
  have:=hm.2.1;omega
 have uk:=fun s=>Cd (Γ:=Γ) t (by omega) JY hw s;have c7:=fun s=>fi (Γ:=Γ) hG t ht s;rw [if_pos hr] at c7;have iC:=fun s=>gT (Γ:=Γ) hG leaf (aU t) cL G8 s;have EK:=fun s=>hJ (Γ:=Γ) hG leaf (aU t) cL G8 s;unfold aZ uV aH at *
 refine pz ?_;intro K hK;refine jM ?_;intro o5 h5 o8 h8 o9 h9;refine hK _ _ ?_;clear hK K;refine Bt (d:=9) rfl h9 ?_;refine Bt (d:=8) rfl h8 ?_;refine Bt (d:=5) rfl h5 ?_;clear h5 h8 h9;refine pz ?_;intro K hK;refine jM ?_;refine ad (uk _) ?_;rintro r s1 ⟨O,cap,rest,rfl,hO,gB,S6,qX⟩;refine jM ?_;intro rf h11;refine hK _ _ ?_;clear hK K;refine pz ?_;intro K hK;refine jM ?_;refine ad (c7 _) ?_;rintro r s2 ⟨rfl,rfl⟩;refine jR hK ?_;clear hK K;refine pz ?_;intro K hK;refine jM ?_;refine ad (iC _) ?_;rintro r s3 ⟨rfl,rfl⟩;refine jM ?_;refine ad (EK _) ?_;rintro r s4 ⟨rfl,rfl⟩;refine jM ?_;intro AQ ZA;refine hK _ _ ?_;clear hK K;refine pz ?_;intro K hK;refine jM ?_;intro qM Fm;refine hK _ _ ?_;clear hK K;obtain ⟨Ld,ZA⟩:=yg ZA;obtain ⟨Le,Fm⟩:=yg Fm;obtain ⟨G9,Fm⟩:=yg Fm;have R8 : O≠rf:=(fun e=>by rw [e,h11] at hO; cases hO);have XW : O≠AQ:=(fun e=>by rw [e,ZA] at hO; cases hO);have Oj : O≠qM:=(fun e=>by rw [e,Fm] at hO; cases hO);have m11 : s.av rf = none:=AS.le_none qX h11;have m14 : s.av AQ = none:=AS.le_none qX ZA;have PV : s.av qM = none:=AS.le_none qX Fm;have WX : (aP (aD leaf (aU t))).length = (aD leaf (aU t)).length:=bo _;have vj:=fW cL G8;refine HL (AS.tq (cs':=[aj [] .any]) (AS.ae _ _ _) (.cons AV.aI .nil)) ?_;rw [AS.set_set];refine p7 (by decide) ?_;intro K hK;refine jM ?_;refine ad (xt _ _ _) ?_;rintro r s5 ⟨rfl,rfl⟩;refine jR hK ?_;clear hK K;refine ⟨157,_,_,fun i s'=>XS s t leaf keys fresh O cap rf AQ qM rest i s',by simp only [aL,aF,WX,Nc,↓reduceIte],by kernel_rfl,xu _ _ WX (by omega),by simp,?_,?_,?_⟩
 ·refine ⟨AS.aE (AS.aE (AS.aE qX m11 _) m14 _) PV _,?_,?_,AS.ae _ _ _,?_⟩
  ·rw [AS.ao _ (Ne.symm G9),AS.ao _ (Ne.symm Ld),AS.ae]
  ·rw [AS.ao _ (Ne.symm Le),AS.ae]; rfl
  ·rw [AS.ao _ Oj,AS.ao _ XW,AS.ao _ R8,hO]; rfl
 ·rintro i0 x s2 hx ⟨eQ,Mm,q14,yW,qO⟩;obtain ⟨fX,rfl⟩ : i0 < (aD leaf (aU t)).length∧x = [aM (((aD leaf (aU t)).length - 1 - i0 : Nat) : Int),aM ((aP (aD leaf (aU t))).getD ((aD leaf (aU t)).length - 1 - i0) 0)]:=by
   rw [List.getElem?_map] at hx;cases hh : (List.range (aD leaf (aU t)).length)[i0]? with
   | none=>rw [hh] at hx; cases hx
   | some v =>
    rw [hh] at hx;obtain ⟨h1,h2⟩:=List.getElem?_eq_some_iff.1 hh;simp at h1 h2;subst h2;simp at hx;exact ⟨h1,hx.symm⟩
  simp only [yS];have S2 : (aD leaf (aU t)).length - 1 - i0 < (aD leaf (aU t)).length:=(by omega);obtain ⟨j,hj⟩ : ∃ j,j = (aD leaf (aU t)).length - 1 - i0:=⟨_,rfl⟩;have hup : (aP (aD leaf (aU t))).getD j 0 = (((aD leaf (aU t)).getD j 0 : Nat) : Int):=by
   rw [← hj] at S2;simp [aP,List.getD,S2]
  rw [← hj] at S2 ⊢;rw [hup];obtain ⟨up,Ol⟩ : ∃ up,up = (aD leaf (aU t)).getD j 0:=⟨_,rfl⟩;rw [← Ol];simp only [aM];obtain ⟨par,R9⟩ : ∃ par,par = (vw t leaf keys fresh i0).2:=⟨_,rfl⟩;obtain ⟨TZ,hTZ⟩ : ∃ TZ,TZ = (vw t leaf keys fresh i0).1:=⟨_,rfl⟩;rw [← R9] at yW;rw [← hTZ] at qO;have hkj : j < keys.length:=(by omega);have my : (List.take 1 (List.drop j (keys.map eo)))[0]? = some (AV.v (.int .u64 (keys.getD j 0 : Nat))):=by
   simp [List.getElem?_take,List.getD,hkj,eo]
  have cz : (0 : Int)≤((j : Nat) : Int):=(by omega);have bI : ((j : Nat) : Int) < ((keys.length : Nat) : Int):=(by omega);refine jA ?_;refine jC ?_;refine ⟨rfl,?_⟩;refine ag ?_;unfold aj at yW;refine dL T.mixed [(qM,[.sl 1 par.length (par.map ah) .any])] [6,7] [4] [] (by kernel_rfl) (by simp only [aG,aJ,and_true]; simp [AS.set,aF,yW]) ?_;intro K hK;simp only [↓bp,↓a7,dh,dd,aO,aS,aG,aJ,List.any_cons,List.any_nil,List.contains_cons,List.contains_nil,Nat.reduceBEq,Bool.or_false,Bool.or_true,Bool.or_self,Bool.false_or,↓DN,Qa,Qb,Qc,Qd,Qe,Qf,Qg,Qh,reduceCtorEq,↓reduceIte,Na,Nb,Nc,Nk,Nf,Ng,Nh,Za,Zb,Zc,TT,cz,bI,my,yW];intro ob rp;have XX : ¬ qM = ob:=(fun e=>by rw [← e,yW] at rp; cases rp);simp only [if_neg XX,true_and,and_true];refine hK _ _ ?_;clear hK K;refine Aj (AS.tq (cs':=[.v (.int .i64 2),aj [] .any,.v (.int .u64 (keys.getD j 0 : Nat)),aj par .any,bO]) (AS.ae _ _ _) (.cons (.refl _) (.cons AV.aI (.cons (.refl _) (.cons (.refl _) (.cons (.refl _) .nil)))))) ?_;rw [AS.set_set];have Zp:=AS.ae s2 ob [.v (.int .i64 2),aj [] .any,.v (.int .u64 (keys.getD j 0 : Nat)),aj par .any,bO];have XY : s2.le (s2.set ob [.v (.int .i64 2),aj [] .any,.v (.int .u64 (keys.getD j 0 : Nat)),aj par .any,bO]):=AS.aE (AS.le.refl _) rp _;generalize s2.set ob [.v (.int .i64 2),aj [] .any,.v (.int .u64 (keys.getD j 0 : Nat)),aj par .any,bO] = s3 at Zp XY ⊢;obtain ⟨P,hP⟩ : ∃ P : Int→Bool,P = fun x=>fo up x && decide (cF t x):=⟨_,rfl⟩;obtain ⟨S,hS⟩ : ∃ S,S = fresh.mergeSort fun x y=>decide (x≤y):=⟨_,rfl⟩;have RN : S.length≤2 ^ 40:=(by rw [hS]; simpa using hf);have hU : iE P S = R7 t fresh up:=by
   rw [hS,hP];refine Oi _ _ _ fun x hx=>?_;simp only [Bool.and_eq_true,decide_eq_true_eq] at hx;obtain ⟨-,h1,h2,-⟩:=hx;exact ⟨h1,by omega⟩
  have Lf:=fun s=>zw (Γ:=Γ) fresh hf s;rw [← hS] at Lf;have ir:=fun f s=>ia (Γ:=Γ) t ht.1 f s;unfold aZ at ir;unfold aH at Lf;refine wK fun K hK=>?_;refine jQ fun K hK=>?_;refine ad (BB _ _ _) ?_;rintro r s4 ⟨rfl,rfl⟩;simp only [↓cj,↓bM,bY,↓bp,↓a7,dh,dd,aO,aS,aG,aJ,List.any_cons,List.any_nil,DX,Nat.reduceBEq,↓DN,Qa,Qb,Qc,Qd,Qe,Qf,Qg,Qh,reduceCtorEq,↓reduceIte,Na,Nb,Nc,Nk,Nf,Ng,Nh,Za,Zb,Zc,TT];refine ad (Lf _) ?_;rintro r s5 ⟨rfl,rfl⟩;simp only [↓cj,↓bM,bY,↓bp,↓a7,dh,dd,aO,aS,aG,aJ,List.any_cons,List.any_nil,DX,Nat.reduceBEq,↓DN,Qa,Qb,Qc,Qd,Qe,Qf,Qg,Qh,reduceCtorEq,↓reduceIte,Na,Nb,Nc,Nk,Nf,Ng,Nh,Za,Zb,Zc,TT];refine hK _ _ ?_;clear hK K;refine ag ?_;refine aC (fun E s'=>∃ (i : Nat) (x : AV),i≤S.length∧E 43 = .sl 1 S.length (S.map aM) .any∧E 44 = .v (.int .i64 S.length)∧E 45 = .v (.int .i64 i)∧E 5 = .dc [.sl 5 t.length (aQ al.cells t) .any]∧E 11 = .ptr rf 0∧E 14 = .ptr AQ 0∧E 15 = .ptr qM 0∧E 16 = .v (.int .i64 j)∧E 17 = .v (.int .i64 up)∧E 18 = .ptr ob 0 ∧
    s'.av ob = some [.v (.int .i64 2),aj [] .any,.v (.int .u64 (keys.getD j 0 : Nat)),aj par .any,x]∧dz 1 s2 s' x (iE P (S.take i)).length ((iE P (S.take i)).map aM)∧s2.le s')
   (fun E _=>match E 45 with | .v (.int _ i)=>S.length - i.toNat | _=>0) ?_ ?_
  ·exact ⟨0,bO,Nat.zero_le _,rfl,rfl,rfl,rfl,rfl,rfl,rfl,rfl,rfl,rfl,Zp,by simpa [iE] using dz.nil 1 s2 s5,XY⟩
  ·rintro E1 s6 ⟨i,x,hi,Tf,Sa,Om,e5,vy,Tg,Mi,GO,Sb,Mn,zn,hx,mD⟩ -
   by_cases aX : i < S.length
   ·have jc : ((i : Nat) : Int) < ((S.length : Nat) : Int):=(by omega);have mz : (0 : Int)≤((i : Nat) : Int):=(by omega);have fJ : (List.take 1 (List.drop i (S.map aM)))[0]? = some (AV.v (.int .i64 S[i])):=by
     simp [List.getElem?_take,aX,aM]
    have eh : iE P (S.take (i + 1)) = yh P (iE P (S.take i)) S[i]:=(by rw [List.take_succ_eq_append_getElem aX,FV]);generalize S[i] = f at fJ eh;have xgU : (iE P (S.take i)).length≤2 ^ 40:=Nat.le_trans (It P _) (by rw [List.length_take]; omega);generalize iE P (S.take i) = acc at *
    obtain ⟨FX,P5⟩ : ∃ FX,FX = iE P (S.take (i + 1)):=⟨_,rfl⟩;rw [← P5] at eh;refine jB (Ai @Sa (Ai @Om (decide_eq_true jc))) ?_;refine wK fun K2 aV=>?_;refine jE ?_;refine ab ?_;refine aV _ _ ?_;clear aV K2;refine wK fun K3 br=>?_;refine ag ?_;refine jB (Ai @Tf (Ai @Om (Ai @jc (Ai @mz @fJ)))) ?_;have bX : ∀ (E : Env) (s7 : AS) (x' : AV),E 43 = .sl 1 S.length (S.map aM) .any→E 44 = .v (.int .i64 S.length)→E 45 = .v (.int .i64 i)→E 5 = .dc [.sl 5 t.length (aQ al.cells t) .any]→E 11 = .ptr rf 0→E 14 = .ptr AQ 0→E 15 = .ptr qM 0→E 16 = .v (.int .i64 j)→E 17 = .v (.int .i64 up)→E 18 = .ptr ob 0 →
      s7.av ob = some [.v (.int .i64 2),aj [] .any,.v (.int .u64 (keys.getD j 0 : Nat)),aj par .any,x']→dz 1 s2 s7 x' FX.length (FX.map aM)→s2.le s7→K3 E s7:=by
     intro E s7 x' f43 f44 f45 f5 f11 f14 f15 f16 f17 f18 xbm fx BA;refine br _ _ ?_;clear br K3;refine jD (Ai @f45 (bj i (by omega))) ?_;refine ⟨⟨i + 1,x',aX,f43,f44,rfl,f5,f11,f14,f15,f16,f17,f18,xbm,by rw [← P5]; exact fx,BA⟩,?_⟩;simp only [Om,aF,↓reduceIte];omega
    clear br;have XZ : P f = (fo up f && decide (cF t f)):=(by rw [hP]);have Hr:=fun s=>l8 (Γ:=Γ) hG up f s;have YW:=fun s=>ir f s;have On:=fun s=>ai.gz (.cons hx.aB (.cons (.refl _) .nil)) (ic (Γ:=Γ) acc f (by omega) s);generalize fo up f = b1 at XZ Hr;generalize decide (cF t f) = b2 at XZ YW;have uu : P f = false→FX = acc:=(fun h=>by rw [eh]; exact if_neg (by rw [h]; simp));have A9 : f ∈ acc→FX = acc:=(fun h=>by rw [eh]; exact if_neg fun k=>k.2 h);have KT : P f = true→f ∉ acc→FX = acc ++ [f]:=(fun h k=>by rw [eh]; exact if_pos ⟨h,k⟩);refine jS @Sb fun K hK=>?_;refine ad (Hr _) ?_;rintro r s7 ⟨rfl,rfl⟩;cases b1 with
    | false =>
     refine jR hK ?_;clear hK K;refine jF ?_;refine ab ?_;simp only [ar,az,if_true,if_false];rw [uu (by rw [XZ]; rfl)] at bX;exact bX _ _ x Tf Sa Om e5 vy Tg Mi GO Sb Mn zn hx mD
    | true =>
     refine jN @e5 ?_;refine ad (YW _) ?_;rintro r s8 ⟨rfl,rfl⟩;cases b2 with
     | false =>
      refine jR hK ?_;clear hK K;refine jF ?_;refine ab ?_;simp only [ar,az,if_true,if_false];rw [uu (by rw [XZ]; rfl)] at bX;exact bX _ _ x Tf Sa Om e5 vy Tg Mi GO Sb Mn zn hx mD
     | true =>
      refine jN (Ai @Mn @zn) ?_;refine ad (On _) ?_;rintro r s9 ⟨rfl,rfl⟩;by_cases Lg : f ∈ acc
      ·rw [decide_eq_true Lg];refine jR hK ?_;clear hK K;refine jF ?_;refine ab ?_;simp only [ar,az,if_true,if_false];rw [A9 Lg] at bX;exact bX _ _ x Tf Sa Om e5 vy Tg Mi GO Sb Mn zn hx mD
      ·rw [decide_eq_false Lg];rw [KT (by rw [XZ]; rfl) Lg,List.map_append,List.length_append] at bX;refine jR hK ?_;clear hK K;refine jE ?_;rcases hx with ⟨rfl,fX,vW⟩ | ⟨tk,ek,rfl,dN,oR⟩
       ·unfold bO at zn;refine wE fun K hK=>?_;simp only [↓DN,Qa,Qb,Qc,Qd,Qe,Qf,Qg,Qh,reduceCtorEq,↓reduceIte,Na,Nb,Nc,Nk,Nf,Ng,Nh,Za,Zb,Zc,TT,Mn,zn,List.replicate_succ];intro tk dN;refine hK _ _ (bX _ _ (.sl 1 1 [.v (.int .i64 f)] (.own tk 0)) Tf Sa Om e5 vy Tg Mi GO Sb Mn ?_ ?_ ?_)
        ·rw [AS.ae];rfl
        ·have : acc = []:=List.eq_nil_of_length_eq_zero fX;subst this;exact .inr ⟨tk,0,rfl,by simp [AS.bC,AS.set],bf mD dN⟩
        ·exact AS.aE (AS.bq mD (bf mD dN) 0) rp _
       ·refine wE fun K hK=>?_;simp only [↓DN,Qa,Qb,Qc,Qd,Qe,Qf,Qg,Qh,reduceCtorEq,↓reduceIte,Na,Nb,Nc,Nk,Nf,Ng,Nh,Za,Zb,Zc,TT,Mn,zn,dN,List.replicate_succ];refine ⟨by omega,by omega,hK _ _ (bX _ _ (.sl 1 (acc.length + 1) (acc.map aM ++ [.v (.int .i64 f)]) (.own tk (ek + 1))) Tf Sa Om e5 vy Tg Mi GO Sb Mn ?_ ?_ ?_)⟩
        ·rw [AS.ae];rfl
        ·exact .inr ⟨tk,ek + 1,rfl,by simp [AS.bC,AS.set],oR⟩
        ·exact AS.aE (AS.bq mD oR (ek + 1)) rp _
   ·have jc : ¬ ((i : Nat) : Int) < ((S.length : Nat) : Int):=(by omega);obtain rfl : i = S.length:=(by omega);refine jB (Ai @Sa (Ai @Om (decide_eq_false jc))) ?_;refine wK fun K2 aV=>?_;refine jF ?_;refine aA ?_;simp only [az,ar,if_true];refine hK _ _ ?_;clear hK aV K2 K;rw [List.take_length,hU] at hx;obtain ⟨U,ZB⟩ : ∃ U,U = R7 t fresh up:=⟨_,rfl⟩;rw [← ZB] at hx;obtain ⟨b,hb⟩ : ∃ b : al,b = ⟨2,[],keys.getD j 0,par,U⟩:=⟨_,rfl⟩;refine Aj (AS.tq (cs':=b.cells) zn (by rw [hb]; exact .cons (.refl _) (.cons (.refl _) (.cons (.refl _) (.cons (.refl _) (.cons hx.aB .nil)))))) ?_;have Th:=AS.ae s6 ob b.cells;have qY : s2.le (s6.set ob b.cells):=AS.aE mD rp _;generalize s6.set ob b.cells = s7 at Th qY ⊢;have r11:=qY.av _ _ Mm;have r14:=qY.av _ _ q14;have r15:=qY.av _ _ yW;have rO:=qY.av _ _ qO;have X1 : TZ.length = t.length:=(by rw [hTZ]; exact kU ..);have xbn : up < TZ.length:=by
     have h1 : up ∈ aD leaf (aU t):=by
      rw [Ol];simp [List.getD,S2]
     have:=(Dv cL G8 up h1).1;omega
    have Oo : (0 : Int)≤((up : Nat) : Int):=(by omega);have yQ : ((up : Nat) : Int) < ((t.length : Nat) : Int):=(by omega);have yj:=yb (k:=5) (fun n=>pG n) xbn b rest;have PH : (aQ al.cells TZ ++ rest).length = TZ.length * 5 + rest.length:=(by rw [List.length_append,Go.AM.cS pG]);generalize aQ al.cells TZ ++ rest = R at rO yj PH;have hbc : b.cells = [.v (.int .i64 2),aj [] .any,.v (.int .u64 (keys.getD j 0 : Nat)),aj par .any,aH U .any]:=(by rw [hb]; rfl);rw [hbc] at yj Th;simp only [bm] at yj;unfold aj aH at Th yj;simp only [List.length_nil,List.map_nil] at Th yj;refine jS (Ai @vy (Ai @Sb (Ai @Mn (Ai @r11 (Ai @Th (Ai @rO (Ai @Oo @yQ))))))) fun K hK=>?_;refine ⟨by omega,hK _ _ ?_⟩;clear hK K;rw [yj];have nOb : O≠ob:=(fun e=>by rw [← e,qO] at rp; cases rp);have xbo : AQ≠ob:=(fun e=>by rw [← e,q14] at rp; cases rp);have xgY : rf≠ob:=(fun e=>by rw [← e,Mm] at rp; cases rp);have X2 : s.le (s7.set O (aQ al.cells (TZ.set up b) ++ rest)):=AS.aE (eQ.trans qY) S6 _;have X3 : (s7.set O (aQ al.cells (TZ.set up b) ++ rest)).av rf = _:=(AS.ao _ (Ne.symm R8) _).trans r11;have P6 : (s7.set O (aQ al.cells (TZ.set up b) ++ rest)).av AQ = _:=(AS.ao _ (Ne.symm XW) _).trans r14;have X4 : (s7.set O (aQ al.cells (TZ.set up b) ++ rest)).av qM = _:=(AS.ao _ (Ne.symm Oj) _).trans r15;have uO:=AS.ae s7 O (aQ al.cells (TZ.set up b) ++ rest);have ub : (s7.set O (aQ al.cells (TZ.set up b) ++ rest)).av ob = _:=(AS.ao _ (Ne.symm nOb) _).trans Th;generalize s7.set O (aQ al.cells (TZ.set up b) ++ rest) = s8 at X2 X3 P6 X4 uO ub ⊢;have Fp : (aP (cC leaf (aU t))).length = (aD leaf (aU t)).length:=(by simp [bo,cC]);have P7 : (List.take 1 (List.drop j ((aP (cC leaf (aU t))).map aM)))[0]? = some (AV.v (.int .i64 (cl (nodeAt leaf (aU t) j) : Nat))):=by
     simp [List.getElem?_take,aP,cC,S2,aM]
    have Ha:=fun s=>zq (Γ:=Γ) dO gl hG t ht (cl (nodeAt leaf (aU t) j) : Nat) s;have yk:=fun s=>ue (Γ:=Γ) dO gl b (by rw [hb,ZB]; exact Nat.le_trans (Lc _ _ _) (by omega)) (x8 t (cl (nodeAt leaf (aU t) j) : Nat)) (by
     unfold x8;split
     ·exact Nat.le_trans (uf t _ _) (by omega)
     ·simp) s
    rw [hbc] at yk;have Oq : (0 : Int)≤((j : Nat) : Int):=(by omega);have X5 : ((j : Nat) : Int) < (((aP (cC leaf (aU t))).length : Nat) : Int):=(by omega);obtain ⟨HH,hHH⟩ : ∃ HH,HH = x8 t (cl (nodeAt leaf (aU t) j) : Nat):=⟨_,rfl⟩;rw [← hHH] at Ha yk;obtain ⟨PD,hPD⟩ : ∃ PD,PD = pF b HH:=⟨_,rfl⟩;rw [← hPD] at yk;obtain ⟨SD,hSD⟩ : ∃ SD,SD = aP (cC leaf (aU t)):=⟨_,rfl⟩;rw [← hSD] at Fp P7 P6 X5;unfold aZ at Ha;unfold aj at Ha yk;unfold aH at P6 yk;simp only [List.length_nil,List.map_nil] at yk;generalize aQ al.cells t = XT at *
    have Lh : ¬ ob = AQ:=fun e=>xbo e.symm;have Sc : ¬ ob = qM:=fun e=>XX e.symm;refine cH T.mixed [(ob,[.v (.int .i64 2),.sl 1 0 [] .any,.v (.int .u64 (keys.getD j 0 : Nat)),.sl 1 par.length (par.map ah) .any,.sl 1 U.length (U.map aM) .any]),(AQ,[.sl 1 SD.length (SD.map aM) .any])] [6,7,8] [0,2] [] (by kernel_rfl) (by simp only [aG,aJ,and_true]; simp [AS.set,aF,P6,ub,X4]) ?_;intro K hK;simp only [↓bp,↓a7,dh,dd,aO,aS,aG,aJ,List.any_cons,List.any_nil,List.contains_cons,List.contains_nil,Nat.reduceBEq,Bool.or_false,Bool.or_true,Bool.or_self,Bool.false_or,↓DN,Qa,Qb,Qc,Qd,Qe,Qf,Qg,Qh,reduceCtorEq,↓reduceIte,Na,Nb,Nc,Nk,Nf,Ng,Nh,Za,Zb,Zc,TT,e5,Tg,Mi,GO,Mn,Oq,X5,P7,P6,ub,X4,Lh,Sc];refine ad (Ha _) ?_;rintro r s9 ⟨rfl,rfl⟩;simp only [↓cj,↓bM,bY,↓bp,↓a7,dh,dd,aO,aS,aG,aJ,List.any_cons,List.any_nil,DX,Nat.reduceBEq,↓DN,Qa,Qb,Qc,Qd,Qe,Qf,Qg,Qh,reduceCtorEq,↓reduceIte,Na,Nb,Nc,Nk,Nf,Ng,Nh,Za,Zb,Zc,TT,P6,ub,X4,Lh,Sc];refine ad (yk _) ?_;rintro r PM ⟨rfl,rfl⟩;have X6 : ¬ AQ = qM:=fun e=>Le e.symm;simp only [↓cj,↓bM,bY,↓bp,↓a7,dh,dd,aO,aS,aG,aJ,List.any_cons,List.any_nil,DX,Nat.reduceBEq,↓DN,Qa,Qb,Qc,Qd,Qe,Qf,Qg,Qh,reduceCtorEq,↓reduceIte,Na,Nb,Nc,Nk,Nf,Ng,Nh,Za,Zb,Zc,TT,Mi,P6,ub,X4,Lh,Sc,X6];refine hK _ _ ?_;clear hK K;simp only [ar,true_and];have jZ : j = (aD leaf (aU t)).length - 1 - i0:=hj;refine ⟨AS.aE X2 PV _,(AS.ao _ (Ne.symm G9) _).trans X3,(AS.ao _ (Ne.symm Le) _).trans (by rw [P6,hSD]; rfl),?_,?_⟩
    ·rw [AS.ae,hPD,hHH,hb,ZB,R9,Ol,hj];rfl
    ·rw [AS.ao _ Oj,uO,hb,ZB,R9,Ol,hTZ,hj];rfl
 ·rw [show ((List.range (aD leaf (aU t)).length).map fun i=>[aM (((aD leaf (aU t)).length - 1 - i : Nat) : Int),aM ((aP (aD leaf (aU t))).getD ((aD leaf (aU t)).length - 1 - i) 0)]).length = (aD leaf (aU t)).length by simp];rintro s2 ⟨eQ,Mm,q14,yW,qO⟩;have X1:=kU t leaf keys fresh (aD leaf (aU t)).length;obtain ⟨W,hW⟩ : ∃ W,W = iB t leaf key keys fresh:=⟨_,rfl⟩;rw [← hW];unfold iB at hW;simp only at hW;generalize (vw t leaf keys fresh (aD leaf (aU t)).length).2 = par at *
  generalize (vw t leaf keys fresh (aD leaf (aU t)).length).1 = TZ at *
  have hu : 2 * leaf < TZ.length:=(by omega);have yj:=FW hu key par rest;have PH : (aQ al.cells TZ ++ rest).length = TZ.length * 5 + rest.length:=(by rw [List.length_append,Go.AM.cS pG]);rw [← hW] at yj;have Mc : W.length = t.length:=(by rw [hW,List.length_set,X1]);generalize aQ al.cells TZ ++ rest = R at qO yj PH;unfold aj at yW yj;have cz : (0 : Int)≤((2 * leaf : Nat) : Int):=(by omega);have bI : ((2 * leaf : Nat) : Int) < ((t.length : Nat) : Int):=(by omega);have xbp : 2 * leaf < t.length:=(by omega);have X7 : ¬ rf = O:=fun e=>R8 e.symm;have xbq : ¬ qM = O:=fun e=>Oj e.symm;refine dL T.mixed [(rf,[.iv O 0 5 t.length cap]),(qM,[.sl 1 par.length (par.map ah) .any])] [10,13] [0,3,7] [] (by kernel_rfl) (by simp only [aG,aJ,and_true]; simp [AS.set,aF,Mm,yW]) ?_;intro K hK;simp only [↓bp,↓a7,dh,dd,aO,aS,aG,aJ,List.any_cons,List.any_nil,List.contains_cons,List.contains_nil,Nat.reduceBEq,Bool.or_false,Bool.or_true,Bool.or_self,Bool.false_or,↓DN,Qa,Qb,Qc,Qd,Qe,Qf,Qg,Qh,reduceCtorEq,↓reduceIte,Na,Nb,Nc,Nk,Nf,Ng,Nh,Za,Zb,Zc,TT,ca leaf (by omega),cz,bI,ax,xbp,Mm,yW,qO,X7,xbq,G9,Ne.symm G9];refine ⟨by omega,by rw [List.length_set]; omega,hK _ _ ?_⟩;clear hK K;rw [yj];have X3 : (s2.set O (aQ al.cells W ++ rest)).av rf = _:=(AS.ao _ X7 _).trans Mm;have uO:=AS.ae s2 O (aQ al.cells W ++ rest);have gb : s.le (s2.set O (aQ al.cells W ++ rest)):=AS.aE eQ S6 _;generalize s2.set O (aQ al.cells W ++ rest) = s3 at X3 uO gb ⊢;refine jB @X3 ?_;refine jI ?_;exact jW ⟨O,cap,rest,by rw [Mc],uO,by rw [Mc]; exact gB,S6,gb⟩
theorem D4.settle {s s' : AS} {r : AV} {T : List al} (h : D4 s s' r T) : ∃ s2,cw Γ s' r s2 (aZ T)∧s.le s2:=by
 obtain ⟨O,cap,rest,rfl,h1,_,h3,h4⟩:=h;exact ⟨_,cw.outer h1 (Go.AM.cS pG _),AS.rE h4 h3⟩
theorem su (dO : Γ 0 = dV Sha.H0) (gl : Γ 1 = Sha.K.map wV) (hG : Γ 3 = eS.map nH) (t : List al) (ht : dS t) (JY : t.length≤2 ^ 30) (hw : ∀ n ∈ t,mA n) (hr : bw t) (leaf : Nat) (hm : cF t leaf)
  (key : Nat) (keys : List Nat) (hk : keys.length = (aD leaf (aU t)).length) (fresh : List Int) (hf : fresh.length≤2 ^ 40) (s : AS) :
  ai prog Γ 50 [aZ t,.v (.int .i64 leaf),.v (.int .u64 key),uV keys,aH fresh .any] s (fun r s'=>r = aZ (iB t leaf key keys fresh)∧s' = s):=by
 refine ai.forget (ai.settle (zx dO gl hG t ht JY hw hr leaf hm key keys hk fresh hf s) ?_ (R:=fun r s'=>r = aZ (iB t leaf key keys fresh)∧s.le s')) fun r s' ⟨h1,h2⟩=>⟨s,h2,h1,rfl⟩;intro r s' h;obtain ⟨s2,h1,h2⟩:=D4.settle (Γ:=Γ) h;exact ⟨_,_,h1,rfl,h2⟩
def nf (n : Nat) : Bool:=decide (2≤(n : Int)) && decide ((n : Int)≤2305843009213693949)
def Aw (t : List al) (leaf : Nat) (fresh : List Int) (q : cu) (i : Nat) : Bool :=
 nf q.key && decide (q.di.length = (bG t (cl (nodeAt leaf (aU t) i) : Nat) fresh).length)
def tK (t : List al) (leaf : Nat) (fresh : List Int) (l : List cu) : Bool:=(List.range l.length).all fun i=>Aw t leaf fresh (l.getD i ⟨0,[]⟩) i
def oX (t : List al) (leaf : Int) (p : dM) (fresh : List Int) : List al × Int :=
 if gY t leaf≠0 then ([],gY t leaf)
 else if p.steps.length≠(aD leaf.toNat (aU t)).length∨nf p.key = false then ([],45)
 else if tK t leaf.toNat fresh p.steps = false then ([],45)
 else
  let out:=iB t leaf.toNat p.key (p.steps.map (·.key)) fresh
  if (nd out (2 * leaf.toNat)).parent = p.parent then (out,0) else ([],45)
theorem ku {t : List al} {i : Int} : gY t i = 0↔bw t∧cF t i:=by
 unfold gY;split
 ·split <;> simp_all
 ·simp_all
theorem zy (dO : Γ 0 = dV Sha.H0) (gl : Γ 1 = Sha.K.map wV) (hG : Γ 3 = eS.map nH) (t : List al) (ht : dS t) (JY : t.length≤2 ^ 30) (hw : ∀ n ∈ t,mA n) (leaf : Int)
  (p : dM) (hp : p.steps.length≤2 ^ 40) (fresh : List Int) (hf : fresh.length≤2 ^ 40) (s : AS) :
  ai prog Γ 15 [aZ t,.v (.int .i64 leaf),.agg p.cells,aH fresh .any] s (fun r s'=>r = .dX [aZ (oX t leaf p fresh).1,.v (.int .i64 (oX t leaf p fresh).2)]∧s' = s):=by
 refine aa func15 rfl ntmps15 results15 (by simp) ?_;have xy:=fun s=>oV (Γ:=Γ) hG t ht leaf s;have c7:=fun s=>fi (Γ:=Γ) hG t ht s;have Rg:=fun n s=>cb (Γ:=Γ) n s;have fL:=fun x s=>iP (Γ:=Γ) hG t ht x fresh (by omega) s;have JZ:=fun hr leaf hm key keys hk s=>su (Γ:=Γ) dO gl hG t ht JY hw hr leaf hm key keys hk fresh hf s;obtain ⟨A,hA⟩ : ∃ A,A = oX t leaf p fresh:=⟨_,rfl⟩;rw [← hA];have rK : (AV.v (.slice none 0 0)).aB (aZ []):=AV.aI;obtain ⟨py,Ti,rq⟩:=p;unfold dM.cells;unfold aZ at xy c7 fL ⊢;unfold aH at fL ⊢;simp only at hp;have vx:=fun i (h : i < rq.length)=>ni (c:=cu.cells) (k:=2) (fun _=>rfl) h;generalize hY : aQ cu.cells rq = Y at *
 generalize Zi : aQ al.cells t = X at *
 unfold aj;refine aY 6 (by decide) ?_;intro K hK;refine jM ?_;intro o1 h1;refine hK _ _ o1 _ rfl h1 ?_;clear hK K h1;refine wK fun K hK=>?_;refine jK (xy _) ?_;rintro s1 rfl;by_cases he : gY t leaf = 0
 ·have e0 : (gY t leaf != 0) = false:=(by simp [he]);refine jB @e0 ?_;refine jF ?_;refine ab ?_;refine hK _ _ ?_;clear hK K;obtain ⟨hr,hm⟩:=ku.1 he;obtain ⟨lf,rfl⟩:=Int.eq_ofNat_of_zero_le hm.1;obtain ⟨cL,lj⟩ : Fit (aU t)∧t.length = 2 * aU t - 1:=by
   rcases bT (t:=t) with h | h
   ·exact absurd h hr.1
   ·exact h
  have oW:=cL.le;have gE : lf < aU t:=by
   have:=hm.2.1;omega
  have vj:=fW cL gE;have EK:=fun s=>hJ (Γ:=Γ) hG lf (aU t) cL gE s;have Fp : (aP (cC lf (aU t))).length = (aD lf (aU t)).length:=(by simp [bo,cC]);have Rk : ∀ i,i < (aD lf (aU t)).length→(List.take 1 (List.drop i ((aP (cC lf (aU t))).map aM)))[0]? = some (AV.v (.int .i64 (cl (nodeAt lf (aU t) i) : Nat))):=by
   intro i hi;simp [List.getElem?_take,aP,cC,hi,aM]
  unfold aH at EK;generalize aP (cC lf (aU t)) = SD at *
  rw [if_pos hr] at c7;unfold oX at hA;rw [if_neg (by rw [he]; simp)] at hA;simp only [Int.toNat_natCast] at hA;refine jQ fun K hK=>?_;refine ad (c7 _) ?_;rintro r s2 ⟨rfl,rfl⟩;refine jM ?_;refine ad (EK _) ?_;rintro r s3 ⟨rfl,rfl⟩;refine jR hK ?_;clear hK K;have ef : A = ([],45)→∀ (E : Env) (s5 : AS),s3.le s5→E 8 = .v (.slice none 0 0)→E 9 = .v (.int .i64 45)→bt prog (#[ResultVar.tmp 8,ResultVar.tmp 9] : Array ResultVar).toList (fun r s'=>r = .dX [.sl 5 A.1.length (aQ al.cells A.1) .any,.v (.int .i64 A.2)]∧s' = s3) E s5:=by
   intro X8 E s5 hle f8 f9;rw [X8];simp only [bt,bD,cU,f8,f9];exact ⟨_,_,AV.cO rK (AV.aB.refl _),hle,rfl,rfl⟩
  refine wK fun K hK=>?_;by_cases hl : rq.length = (aD lf (aU t)).length
  ·have e1 : ((rq.length : Int) != (SD.length : Int)) = false:=(by rw [Fp,hl]; simp);refine jS @e1 fun K hK=>?_;refine ad (Rg py _) ?_;rintro r s4 ⟨rfl,rfl⟩;obtain ⟨q,hq⟩ : ∃ q,q = nf py:=⟨_,rfl⟩;have JQ : (decide (2≤(py : Int)) && decide ((py : Int)≤2305843009213693949)) = q:=hq.symm;rw [JQ];cases q with
   | false =>
    rw [if_pos (.inr hq.symm)] at hA;refine jR hK ?_;clear hK K;refine jE ?_;refine jA ?_;refine aW ?_;try simp only [az,ar]
    exact ef hA _ _ (AS.le.refl _) rfl rfl
   | true =>
    rw [if_neg (by rw [← hq]; simp [hl])] at hA;refine jR hK ?_;clear hK K;refine jF ?_;refine ab ?_;refine hK _ _ ?_;clear hK K;have X9 : ∀ i,(h : i < rq.length)→Aw t lf fresh rq[i] i = false→A = ([],45):=by
     intro i h hb;rw [hA,if_pos];unfold tK;rw [List.all_eq_false];exact ⟨i,by simpa using h,by simp [List.getD,h,hb]⟩
    have Sd : (∀ i,(h : i < rq.length)→Aw t lf fresh rq[i] i = true)→tK t lf fresh rq = true:=by
     intro h;unfold tK;rw [List.all_eq_true];intro i hi;have aX : i < rq.length:=(by simpa using hi);simp [List.getD,aX,h i aX]
    obtain ⟨kl,tI⟩ : ∃ kl,kl = rq.map (·.key):=⟨_,rfl⟩;have xbr : kl.length = rq.length:=(by rw [tI,List.length_map]);have xbs : ∀ i,(h : i < rq.length)→(kl.take (i + 1)).map eo = (kl.take i).map eo ++ [.v (.int .u64 (rq[i].key : Nat))]:=by
     intro i h;rw [List.take_succ_eq_append_getElem (by omega),List.map_append];simp [tI,eo]
    rw [← tI] at hA;have L9 : s4.le s4:=AS.le.refl _;refine jA ?_;refine wK fun K hK=>?_;refine jA ?_;refine ag ?_;refine aC (fun E s'=>∃ (i : Nat) (x : AV),i≤rq.length∧(∀ j,(h : j < rq.length)→j < i→Aw t lf fresh rq[j] j = true)∧E 39 = .sl 2 rq.length Y .any∧E 40 = .v (.int .i64 rq.length)∧E 41 = .v (.int .i64 i)∧E 0 = .sl 5 t.length X .any∧E 1 = .v (.int .i64 lf)∧E 3 = .sl 1 fresh.length (fresh.map aM) .any ∧
      E 6 = .dc [.v (.int .u64 py),.sl 1 Ti.length (Ti.map ah) .any,.sl 2 rq.length Y .any]∧E 11 = .sl 1 SD.length (SD.map aM) .any∧E 12 = x∧dz 1 s4 s' x i ((kl.take i).map eo)∧s4.le s')
     (fun E _=>match E 41 with | .v (.int _ i)=>rq.length - i.toNat | _=>0) ?_ ?_
    ·exact ⟨0,bO,Nat.zero_le _,fun j _ h=>absurd h (Nat.not_lt_zero _),rfl,rfl,rfl,rfl,rfl,rfl,rfl,rfl,rfl,dz.nil _ _ _,L9⟩
    ·rintro E1 s5 ⟨i,x,hi,BI,e39,ZC,Tj,f0,f1,f3,f6,f11,f12,hx,gp⟩ -
     by_cases aX : i < rq.length
     ·have bI : ((i : Nat) : Int) < ((rq.length : Nat) : Int):=(by omega);have cz : (0 : Int)≤((i : Nat) : Int):=(by omega);have jc : ((i : Nat) : Int) < ((SD.length : Nat) : Int):=(by omega);have dw:=vx i aX;have Ho:=Rk i (by omega);have SS:=X9 i aX;have dN:=xbs i aX;refine jB (Ai @ZC (Ai @Tj (decide_eq_true bI))) ?_;refine wK fun K2 aV=>?_;refine jE ?_;refine ab ?_;refine aV _ _ ?_;clear aV K2;refine wK fun K3 br=>?_;refine ag ?_;generalize hQe : rq[i] = Q at *
      obtain ⟨qk,qs⟩:=Q;unfold cu.cells at dw;refine aY 14 (by decide) ?_;intro K4 ee;refine jN (Ai @e39 (Ai @Tj (Ai @bI (Ai @cz @dw)))) ?_;intro o2 q2;refine ee _ _ o2 _ rfl q2 ?_;clear ee K4 q2;refine wK fun K4 ee=>?_;have Li : Aw t lf fresh ⟨qk,qs⟩ i = (nf qk && decide (qs.length = (bG t (cl (nodeAt lf (aU t) i) : Nat) fresh).length)):=rfl;have L6:=fun s=>fL (cl (nodeAt lf (aU t) i) : Nat) s;obtain ⟨RT,hRT⟩ : ∃ RT,RT = bG t (cl (nodeAt lf (aU t) i) : Nat) fresh:=⟨_,rfl⟩;rw [← hRT] at L6 Li;obtain ⟨q,Tb⟩ : ∃ q,q = nf qk:=⟨_,rfl⟩;have JT : (decide (2≤(qk : Int)) && decide ((qk : Int)≤2305843009213693949)) = q:=Tb.symm;have Ru:=fun s=>Rg qk s;rw [JT] at Ru;rw [← Tb] at Li;refine bn T.mixed [2,14] (by kernel_rfl) ?_;intro K hK;refine jN (Ai @f0 (Ai @f3 @f11)) ?_;refine ad (Ru _) ?_;rintro r s6 ⟨rfl,rfl⟩;cases q with
      | false =>
       refine jR hK ?_;clear hK K;refine jE ?_;refine jA ?_;refine aW ?_;try simp only [az,ar]
       exact ef (SS (by rw [Li]; rfl)) _ _ gp rfl rfl
      | true =>
       refine jN (Ai @f0 (Ai @f3 (Ai @f11 (Ai @cz (Ai @jc @Ho))))) ?_;refine ad (L6 _) ?_;rintro r s7 ⟨rfl,rfl⟩;by_cases HR : qs.length = RT.length
       ·have e1 : ((qs.length : Int) != (RT.length : Int)) = false:=(by rw [HR]; simp);refine jV @e1 hK ?_;clear hK K;refine jF ?_;refine ab ?_;refine ee _ _ ?_;clear ee K4;have bX : ∀ (E : Env) (s6 : AS) (x' : AV),E 39 = .sl 2 rq.length Y .any→E 40 = .v (.int .i64 rq.length)→E 41 = .v (.int .i64 i)→E 0 = .sl 5 t.length X .any→E 1 = .v (.int .i64 lf)→E 3 = .sl 1 fresh.length (fresh.map aM) .any →
          E 6 = .dc [.v (.int .u64 py),.sl 1 Ti.length (Ti.map ah) .any,.sl 2 rq.length Y .any]→E 11 = .sl 1 SD.length (SD.map aM) .any→E 12 = x'→dz 1 s4 s6 x' (i + 1) ((kl.take (i + 1)).map eo)→s4.le s6→K3 E s6:=by
         intro E s6 x' g39 g40 g41 g0 g1 g3 g6 g11 g12 gx gle;refine br _ _ ?_;clear br K3;refine jD (Ai @g41 (bj i (by omega))) ?_;refine ⟨⟨i + 1,x',aX,?_,g39,g40,rfl,g0,g1,g3,g6,g11,g12,gx,gle⟩,?_⟩
         ·intro j hj Eu;by_cases e : j = i
          ·subst e;rw [hQe,Li,decide_eq_true HR];rfl
          ·exact BI j hj (by omega)
         ·simp only [Tj,aF,↓reduceIte];omega
        clear br;rcases hx with ⟨rfl,fX,vW⟩ | ⟨tk,ek,rfl,kT,oR⟩
        ·refine wE fun K hK=>?_;simp only [↓DN,Qa,Qb,Qc,Qd,Qe,Qf,Qg,Qh,reduceCtorEq,↓reduceIte,Na,Nb,Nc,Nk,Nf,Ng,Nh,Za,Zb,Zc,TT,f12,bO,List.replicate_succ];intro tk kT;refine hK _ _ (bX _ _ (.sl 1 1 [.v (.int .u64 qk)] (.own tk 0)) e39 ZC Tj f0 f1 f3 f6 f11 rfl ?_ ?_)
         ·refine .inr ⟨tk,0,?_,by simp [AS.bC],bf gp kT⟩;rw [dN,vW];subst fX;rfl
         ·exact AS.bq gp (bf gp kT) 0
        ·refine wE fun K hK=>?_;simp only [↓DN,Qa,Qb,Qc,Qd,Qe,Qf,Qg,Qh,reduceCtorEq,↓reduceIte,Na,Nb,Nc,Nk,Nf,Ng,Nh,Za,Zb,Zc,TT,f12,kT,List.replicate_succ];refine ⟨by omega,by omega,hK _ _ (bX _ _ (.sl 1 (i + 1) ((kl.take i).map eo ++ [.v (.int .u64 qk)]) (.own tk (ek + 1))) e39 ZC Tj f0 f1 f3 f6 f11 rfl ?_ ?_)⟩
         ·exact .inr ⟨tk,ek + 1,by rw [dN],by simp [AS.bC],oR⟩
         ·exact AS.bq gp oR (ek + 1)
       ·have e1 : ((qs.length : Int) != (RT.length : Int)) = true:=by
         rw [bne_iff_ne];omega
        refine jV @e1 hK ?_;clear hK K;refine jE ?_;refine jA ?_;refine aW ?_;try simp only [az,ar]
        exact ef (SS (by rw [Li,decide_eq_false HR]; rfl)) _ _ gp rfl rfl
     ·have bI : ¬ ((i : Nat) : Int) < ((rq.length : Nat) : Int):=(by omega);refine jB (Ai @ZC (Ai @Tj (decide_eq_false bI))) ?_;refine wK fun K2 aV=>?_;refine jF ?_;refine aA ?_;simp only [az,ar,if_true];refine hK _ _ ?_;clear hK aV K2 K;obtain rfl : i = rq.length:=(by omega);rw [if_neg (by rw [Sd fun j h=>BI j h h]; simp)] at hA;rw [List.take_of_length_le (by omega)] at hx;obtain ⟨out,bx⟩ : ∃ out,out = iB t lf py kl fresh:=⟨_,rfl⟩;rw [← bx] at hA;have Zk:=fun s=>ai.gz (.cons (.refl _) (.cons (.refl _) (.cons (.refl _) (.cons hx.aB (.cons (.refl _) .nil))))) (by
       have:=JZ hr lf hm py kl (by omega) s;rw [← bx] at this;unfold uV aZ aH at this;rw [Zi,xbr] at this;exact this)
      have N5 : out.length = t.length:=(by rw [bx]; unfold iB; simp only [List.length_set]; exact kU ..);have hu : 2 * lf < out.length:=(by omega);have dw:=dm hu;have cz : (0 : Int)≤((2 * lf : Nat) : Int):=(by omega);have bI : ((2 * lf : Nat) : Int) < ((out.length : Nat) : Int):=(by omega);have heq:=fun s=>cP (Γ:=Γ) (nd out (2 * lf)).parent Ti s;generalize hZ : aQ al.cells out = Z at *
      obtain ⟨N,hN⟩ : ∃ N,N = nd out (2 * lf):=⟨_,rfl⟩;rw [← hN] at dw heq hA;obtain ⟨na,nb,nc,n8,nu⟩:=N;unfold al.cells at dw;unfold aj at dw heq;simp only at heq hA;refine jS (Ai @f0 (Ai @f1 (Ai @f6 (Ai @f12 @f3)))) fun K hK=>?_;refine ad (Zk _) ?_;rintro r s6 ⟨rfl,rfl⟩;refine jR hK ?_;clear hK K;refine wK fun K hK=>?_;refine bn T.mixed [8] (by kernel_rfl) ?_;intro K hK;refine jN (Ai @f1 (Ai @f6 (Ai (ca lf (by omega)) (Ai @cz (Ai @bI (Ai @ax (Ai @hu @dw))))))) ?_;refine ad (heq _) ?_;rintro r s7 ⟨rfl,rfl⟩;by_cases ZD : n8 = Ti
      ·rw [if_pos ZD] at hA;rw [decide_eq_true ZD];refine jR hK ?_;clear hK K;refine jF ?_;refine ab ?_;refine hK _ _ ?_;clear hK K;refine jA ?_;refine jI ?_;rw [hA];refine ⟨_,_,AV.aB.refl _,gp,?_,rfl⟩;rw [hZ]
      ·rw [if_neg ZD] at hA;rw [decide_eq_false ZD];refine jR hK ?_;clear hK K;refine jE ?_;refine jA ?_;refine aW ?_;try simp only [az,ar]
       exact ef hA _ _ gp rfl rfl
  ·have e1 : ((rq.length : Int) != (SD.length : Int)) = true:=by
    rw [Fp,bne_iff_ne];omega
   rw [if_pos (.inl hl)] at hA;refine jB @e1 ?_;refine jE ?_;refine jA ?_;refine aW ?_;try simp only [az,ar]
   exact ef hA _ _ (AS.le.refl _) rfl rfl
 ·have e0 : (gY t leaf != 0) = true:=(by simp [he]);refine jB @e0 ?_;refine jE ?_;refine jA ?_;refine jI ?_;unfold oX at hA;rw [if_pos he] at hA;rw [hA];exact ⟨_,_,AV.cO rK (AV.aB.refl _),AS.le.refl _,rfl,rfl⟩
def filled (n k : Nat) (c : UInt8) : List UInt8:=List.replicate k c ++ List.replicate (n - k) 0
theorem sQ (o : Nat) (l : List UInt8) (h0 : l≠[]) (hl : l.length≤2 ^ 40) (s : AS) (ho : s.av o = some (l.map ah)) :
  ai prog Γ 90 [.iv o 0 1 l.length l.length] s (fun r s'=>dE s l r s'):=by
 refine aa func90 rfl ntmps90 results90 (by simp) ?_;have hp : ¬ l.length = 0:=fun e=>h0 (List.eq_nil_of_length_eq_zero e);refine jA ?_;refine wK fun K hK=>?_;refine jA ?_;refine jF ?_;refine ab ?_;refine hK _ _ ?_;clear hK K;refine wS fun K hK=>?_;simp only [↓DN,Qa,Qb,Qc,Qd,Qe,Qf,Qg,Qh,reduceCtorEq,↓reduceIte,Na,Nb,Nc,Nk,Nf,Ng,Nh,Za,Zb,Zc,TT,ho,hp,Nat.le_refl,List.take_length];refine ⟨by omega,by omega,fun t ht=>hK _ _ ?_⟩;clear hK K;refine jI ?_;exact ⟨_,_,AV.aB.refl _,AS.le.refl _,AS.bq (AS.le.refl s) ht 0,.inr ⟨t,0,ht,by simp [AS.bC,aF],rfl⟩⟩
theorem _root_.Go.AM.dE.behind {s s' : AS} {l : List UInt8} {r : AV} {o : Nat} {cs : List AV} (h : dE (s.set o cs) l r s') (ho : s.av o = none) : dE s l r s' :=
 ⟨AS.le.trans (AS.aE (AS.le.refl s) ho _) h.1,h.2⟩
theorem Se : ((64 : Nat) : Int) = 64:=rfl
theorem nR (l : List UInt8) (hl : l.length = 64) (x : UInt8) (s : AS) :
  ai prog Γ 213 [.agg (l.map ah),ah x] s (fun r s'=>dE s (Mac.turn x l) r s'):=by
 refine aa func213 rfl ntmps213 results213 (by simp) ?_;have ta : (l.map ah).length = 64:=(by rw [List.length_map,hl]);rw [show ah x = .v (.int .u8 (x.toNat : Int)) from rfl];refine jS @ta fun K hK=>?_;intro o ho;refine hK _ _ ?_;clear hK K;refine wK fun K hK=>?_;refine jA ?_;refine ag ?_;refine aC (fun E s2=>∃ i : Nat,i≤64∧E 1 = .v (.int .u8 (x.toNat : Int))∧E 2 = .ptr o 0∧E 6 = .v (.int .i64 i)∧s2 = s.set o ((Mac.part x l i).map ah))
  (fun E _=>match E 6 with | .v (.int _ y)=>64 - y.toNat | _=>0) ?_ ?_
 ·exact ⟨0,by omega,by simp only [aF,bz,Nc,↓reduceIte,List.getD_cons_succ,List.getD_cons_zero],rfl,rfl,by rw [Mac.Ic]⟩
 ·rintro E2 s2 ⟨i,hi,g1,g2,g6,rfl⟩ -
  by_cases aX : i < 64
  ·have bI : (i : Int) < 64:=(by omega);have jc : (i : Int) < ((64 : Nat) : Int):=(by omega);have fX : (0 : Int)≤(i : Int):=(by omega);have fJ:=Mac.Kz x l i (by omega);have ck:=Mac.KA x l i (by omega);have hlen : ((Mac.part x l i).map ah).length = 64:=(by rw [List.length_map,Mac.DP,hl]);have Lj:=Mac.xO (l.getD i 0) x;generalize l.getD i 0 = c at *
   rw [show ah c = .v (.int .u8 (c.toNat : Int)) from rfl] at fJ;rw [show ah (c ^^^ x) = .v (.int .u8 ((c ^^^ x).toNat : Int)) from rfl] at ck;refine jB (Ai @g6 (decide_eq_true bI)) ?_;refine wK fun K2 aV=>?_;refine jE ?_;refine ab ?_;refine aV _ _ ?_;clear aV K2;refine wK fun K3 br=>?_;refine ag ?_;refine jB @g6 ?_;generalize Mh : (Mac.part x l i).map ah = X0 at *
   refine jU (Ai @g1 (Ai @g2 (Ai @g6 (Ai @fX (Ai @bI (Ai @jc (Ai @hlen (Ai @fJ (Ai @Lj (Ai @ck @Se)))))))))) fun K hK=>?_;refine ⟨by omega,?_⟩;refine hK _ _ ?_;clear hK K;simp only [az,ar,if_true,if_false];refine br _ _ ?_;clear br K3;refine jD (Ai @g6 (cE i (by omega))) ?_;refine ⟨⟨i + 1,by omega,g1,g2,rfl,rfl⟩,?_⟩;simp only [g6,aF,↓reduceIte];omega
  ·have bI : ¬ (i : Int) < 64:=(by omega);obtain rfl : i = 64:=(by omega);refine jB (Ai @g6 (decide_eq_false bI)) ?_;refine wK fun K2 aV=>?_;refine jF ?_;refine aA ?_;simp only [az,ar,if_true];clear aV K2;refine hK _ _ ?_;clear hK K;rw [Mac.Ky x l 64 (by omega)];have lj : (Mac.turn x l).length = 64:=(by rw [Mac.mC,hl]);refine jS (Ai @g2 @Int.le_refl) fun K hK=>?_;have hc:=sQ (Γ:=Γ) o (Mac.turn x l) (by rw [← List.length_pos_iff]; omega) (by omega) (s.set o ((Mac.turn x l).map ah)) (AS.ae _ _ _);rw [lj] at hc;refine ad hc ?_;intro r s3 bx;refine jR hK ?_;clear hK K;refine jI ?_;exact ⟨_,_,AV.aB.refl _,AS.le.refl _,bx.behind ho⟩
theorem _root_.Go.AM.dE.under {s s1 s2 : AS} {l : List UInt8} {r : AV} (h : dE s1 l r s2) (hle : s.le s1) : dE s l r s2:=by
 refine ⟨AS.le.trans hle h.1,?_⟩;rcases h.2 with h | ⟨t,e,h1,h2,h3⟩
 ·exact .inl h
 ·refine .inr ⟨t,e,?_,h2,h3⟩;cases hs : s.own t with
  | none=>rfl
  | some g=>rw [hle.own t g hs] at h1; cases h1
theorem xbu : bg prog 232 = some (List.replicate 64 (.v (.int .u8 0))):=by kernel_rfl
theorem nr (dO : Γ 0 = dV Sha.H0) (hG : Γ 1 = Sha.K.map wV) (key : List UInt8) (ls : List (List UInt8)) (sp : Sp) (hk : key.length≤2 ^ 38) (hn : ls.length≤2 ^ 38) (hl : ls.flatten.length≤2 ^ 38) (s : AS) :
  ai prog Γ 180 [aj key .any,.sl 1 ls.length (fQ ls) sp] s (fun r s'=>dE s (Mac.tag key ls.flatten) r s'):=by
 refine aa func180 rfl ntmps180 results180 (by simp) ?_;refine jA ?_;refine wK fun K hK=>?_;have se : ∀ (E1 : Env) (s1 : AS) (sp1 : Sp),E1 0 = .sl 1 (Mac.key key).length ((Mac.key key).map ah) sp1→E1 1 = .sl 1 ls.length (fQ ls) sp→s.le s1→K E1 s1:=by
  intro E1 s1 sp1 e0 e1 hle;refine hK _ _ ?_;clear hK K;have tI:=Mac.Kx key;generalize WQ : Mac.key key = kk at *
  refine jS @xbu fun K hK=>?_;intro o ho;refine hK _ _ ?_;clear hK K;have h0 : (0 : Int)≤((64 : Nat) : Int):=(by decide);have dN : (kk.map ah).take kk.length = kk.map ah:=List.take_of_length_le (by simp);have Be : min kk.length 64 = kk.length:=Nat.min_eq_left tI;have HI : bm (List.replicate 64 (.v (.int .u8 0))) 0 (kk.map ah) = (Mac.fill kk).map ah:=Mac.FJ kk tI;refine wS fun K hK=>?_;simp only [↓DN,Qa,Qb,Qc,Qd,Qe,Qf,Qg,Qh,reduceCtorEq,↓reduceIte,Na,Nb,Nc,Nk,Nf,Ng,Nh,Za,Zb,Zc,TT,e0,h0,Int.le_refl,ite_self,Be,dN,HI,List.length_replicate,tI];refine hK _ _ ?_;clear hK K;have oW:=Mac.pf kk tI;have Ya : ((Mac.fill kk).map ah).length = 64:=(by rw [List.length_map,oW]);have htf : ((Mac.fill kk).map ah).take 64 = (Mac.fill kk).map ah:=List.take_of_length_le (by omega);have Yb : ∀ x : AV,List.replicate 2 x = [x,x]:=fun _=>rfl;generalize hb : Mac.fill kk = bl at *
  have Mf:=nR (Γ:=Γ) bl oW 54;have Ry:=nR (Γ:=Γ) bl oW 92;have ZE : (Mac.turn 54 bl).length = 64:=(by rw [Mac.mC,oW]);have ZF : (Mac.turn 92 bl).length = 64:=(by rw [Mac.mC,oW]);rw [show ah 54 = .v (.int .u8 54) from rfl] at Mf;rw [show ah 92 = .v (.int .u8 92) from rfl] at Ry;refine jS (Ai @htf (Ai @Ya @Nat.le_refl)) fun K hK=>?_;refine ad (Mf _) ?_;intro r s2 bx;have eQ : s.le s2:=(AS.le.trans hle (AS.aE (AS.le.refl s1) ho _)).trans bx.1;have pQ : s2.av o = some (bl.map ah):=bx.1.av _ _ (AS.ae _ _ _);have HE:=bx.aB;obtain ⟨t1,g1,rfl⟩:=cg bx (by rw [← List.length_pos_iff,ZE]; decide);clear bx;refine jN @e1 ?_;refine ad (kn ls sp (by omega) (by omega) _) ?_;intro r s3 bx;have gb : s.le s3:=AS.le.trans eQ bx.1;have zl : s3.av o = some (bl.map ah):=bx.1.av _ _ pQ;have hw2:=bx.aB;have ik:=kv (Γ:=Γ) dO hG [Mac.turn 54 bl,ls.flatten] .new (by simp) (by simp only [List.flatten_cons,List.flatten_nil,List.append_nil,List.length_append,ZE]; omega) s3;rw [show [Mac.turn 54 bl,ls.flatten].flatten = Mac.turn 54 bl ++ ls.flatten from by simp] at ik;have zr : Sha.sum (Mac.turn 54 bl ++ ls.flatten) = Mac.inner key ls.flatten:=(by rw [Mac.inner,WQ,hb]);have D5 : Sha.sum (Mac.turn 92 bl ++ Mac.inner key ls.flatten) = Mac.tag key ls.flatten:=(by rw [Mac.tag,WQ,hb]);rw [zr] at ik;have Yc : ∀ (E2 : Env) (s4 : AS) (r : AV),E2 5 = .ptr o 0→E2 6 = r→dE s3 (Mac.inner key ls.flatten) r s4→K E2 s4:=by
   intro E2 s4 r g5 g6 bx;refine hK _ _ ?_;clear hK K;have ib : s.le s4:=AS.le.trans gb bx.1;have B4 : s4.av o = some (bl.map ah):=bx.1.av _ _ zl;have QS:=bx.aB;have MF:=Mac.AB key ls.flatten;obtain ⟨t3,g3,rfl⟩:=cg bx (by rw [← List.length_pos_iff,MF]; decide);clear bx;refine jS (Ai @g5 (Ai @B4 (Ai @htf (Ai @Ya @Nat.le_refl)))) fun K hK=>?_;refine ad (Ry _) ?_;intro r s5 bx;have hw4:=bx.aB;have gp : s.le s5:=AS.le.trans ib bx.1;obtain ⟨t4,g4,rfl⟩:=cg bx (by rw [← List.length_pos_iff,ZF]; decide);clear bx;have nY:=kv (Γ:=Γ) dO hG [Mac.turn 92 bl,Mac.inner key ls.flatten] .new (by simp) (by simp only [List.flatten_cons,List.flatten_nil,List.append_nil,List.length_append,ZF,MF]; omega) s5;rw [show [Mac.turn 92 bl,Mac.inner key ls.flatten].flatten = Mac.turn 92 bl ++ Mac.inner key ls.flatten from by simp,D5] at nY;refine jN (Ai @g6 @Yb) ?_;refine ad (ai.gz (fU.aB.cons (AV.r3 (fU.aB.cons hw4 (fU.aB.cons QS fU.aB.nil))) fU.aB.nil) nY) ?_;intro r s6 bx;refine jR hK ?_;clear hK K;refine jI ?_;exact ⟨_,_,AV.aB.refl _,AS.le.refl _,bx.under gp⟩
  rcases bx.2 with ⟨_,rfl⟩ | ⟨t2,g2,_,_,rfl⟩;all_goals
   refine jN @Yb ?_;refine ad (ai.gz (fU.aB.cons (AV.r3 (fU.aB.cons HE (fU.aB.cons hw2 fU.aB.nil))) fU.aB.nil) ik) ?_;intro r s4 bx;refine jM ?_;refine Yc _ _ r ?_ ?_ bx
   ·simp only [aF,Nc,↓reduceIte]
   ·simp only [aF,↓reduceIte]
 by_cases AR : 64 < key.length
 ·have my : Mac.key key = Sha.sum key:=(by rw [Mac.key,if_pos AR]);rw [my] at se;refine jB (decide_eq_true (show (64 : Int) < (key.length : Int) by omega)) ?_;refine jE ?_;refine wE fun K hK=>?_;simp only [↓DN,Qa,Qb,Qc,Qd,Qe,Qf,Qg,Qh,reduceCtorEq,↓reduceIte,Na,Nb,Nc,Nk,Nf,Ng,Nh,Za,Zb,Zc,TT,List.replicate_one];have me:=kv (Γ:=Γ) dO hG [key] .new (by simp) (by simp; omega) s;rw [show [key].flatten = key from by simp] at me;refine ad me ?_;intro r s1 bx;obtain ⟨t,g,rfl⟩:=cg bx (by rw [← List.length_pos_iff,Sha.dA]; decide);refine jR hK ?_;clear hK K;simp only [az];refine se _ _ (.own t g) ?_ ?_ bx.1
  ·simp only [aF,↓reduceIte]
  ·simp only [aF,bz,Nc,↓reduceIte,List.getD_cons_succ,List.getD_cons_zero]
 ·have my : Mac.key key = key:=(by rw [Mac.key,if_neg AR]);rw [my] at se;refine jB (decide_eq_false (show ¬ (64 : Int) < (key.length : Int) by omega)) ?_;refine jF ?_;refine ab ?_;simp only [az];refine se _ _ .any ?_ ?_ (AS.le.refl s)
  ·simp only [aF,bz,Nc,↓reduceIte,List.getD_cons_succ,List.getD_cons_zero,aj]
  ·simp only [aF,bz,Nc,↓reduceIte,List.getD_cons_succ,List.getD_cons_zero]
end Go.Proofs.YtbiefppedlodiaaGreatDoor
