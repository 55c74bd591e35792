/- Contracts of functions, each walked once; each theorem states its conditions. -/
import Derived.Test.YtbiefppedlodiaaGreatDoorAMp6
import Derived.Test.YtbiefppedlodiaaGreatDoorW1
import Derived.Test.YtbiefppedlodiaaGreatDoorW3
set_option linter.unusedSimpArgs false
set_option linter.unusedVariables false
open Nat renaming reduceLT → Na, reduceLeDiff → Nb, reduceEqDiff → Nc, reduceAdd → Nk, reduceMul → Nf, reducePow → Ng, reduceSub → Nh, reduceBEq → Nz
open Int renaming reduceLT → Za, reduceLE → Zb, reduceToNat → Zc
open And renaming intro → Ai
open Go.AM renaming ashift → Qa, aconv → Qb, aindexAddr → Qc, aindex → Qd, aslice → Qe, abuiltin → Qf, awp_reg_seq → wS, awp_reg_end → wE, awp_seq_k → wK, awp_cond_k → wC
open Go.AM.AV renaming cells → Qg, one → Qh
set_option maxRecDepth 100000
set_option maxHeartbeats 8000000
namespace Go.Proofs.YtbiefppedlodiaaGreatDoor
open Go Go.AM Go.Proofs Tryz
variable {Γ : Nat→List AV}
def row (c : List UInt8) (i : Nat) : List AV:=(Sha.lV c i).map wV ++ List.replicate (64 - i) (wV 0)
theorem row_zero (c : List UInt8) : row c 0 = List.replicate 64 (wV 0):=rfl
theorem FF (c : List UInt8) : row c 64 = (Sha.lV c 64).map wV:=by simp [row]
theorem dk (c : List UInt8) (i : Nat) (h : i≤64) : (row c i).length = 64:=by
 simp [row,Sha.cG]; omega
theorem drop_cons {α : Type} (l : List α) (j : Nat) (x : α) (h : l[j]? = some x) : List.drop j l = x :: List.drop (j + 1) l:=by
 obtain ⟨h1,h2⟩:=List.getElem?_eq_some_iff.1 h;rw [List.drop_eq_getElem_cons h1,h2]
theorem kh (c : List UInt8) (i j : Nat) (h : j < i) : List.drop j (row c i) = wV ((Sha.lV c i).getD j 0) :: List.drop (j + 1) (row c i):=by
 apply drop_cons;have hl : j < (Sha.lV c i).length:=(by rw [Sha.cG]; exact h);rw [row,List.getElem?_append_left (by simpa using hl),List.getElem?_map,List.getElem?_eq_getElem hl];simp [List.getD,List.getElem?_eq_getElem hl]
def rowP (c : List UInt8) (i v : Nat) : List AV:=(row c i).set i (wV v)
theorem Kz (c : List UInt8) (i : Nat) (h : i < 64) : rowP c i 0 = row c i:=by
 unfold rowP;apply List.ext_getElem?;intro k;by_cases e : k = i
 ·subst e;rw [List.getElem?_set_self (by rw [dk c k (by omega)]; exact h),row,List.getElem?_append_right (by simp [Sha.cG])];simp [Sha.cG,List.getElem?_replicate];omega
 ·rw [List.getElem?_set_ne (by omega)]
theorem KA (c : List UInt8) (i v : Nat) (h : i < 64) : List.drop i (rowP c i v) = wV v :: List.drop (i + 1) (rowP c i v):=by
 apply drop_cons;rw [rowP,List.getElem?_set_self (by rw [dk c i (by omega)]; exact h)]
theorem M9 (c : List UInt8) (i v u : Nat) : (rowP c i v).set i (wV u) = rowP c i u:=by simp [rowP]
theorem Nd (c : List UInt8) (i v : Nat) (h : i≤64) : (rowP c i v).length = 64:=by simp [rowP,dk c i h]
theorem xz (c : List UInt8) (i : Nat) (h : i < 64) : (row c i).set i (wV (Sha.word c (Sha.lV c i) i)) = row c (i + 1):=by
 apply List.ext_getElem?;intro k;by_cases e : k = i
 ·subst e;rw [List.getElem?_set_self (by rw [dk c k (by omega)]; exact h),row,List.getElem?_append_left (by simp [Sha.cG])];simp [Sha.lV,Sha.cG,List.getElem?_append_right]
 ·rw [List.getElem?_set_ne (by omega),row,row];by_cases hk : k < i
  ·rw [List.getElem?_append_left (by simp [Sha.cG]; omega),List.getElem?_append_left (by simp [Sha.cG]; omega)];simp [Sha.lV,List.getElem?_append_left,Sha.cG,hk]
  ·rw [List.getElem?_append_right (by simp [Sha.cG]; omega),List.getElem?_append_right (by simp [Sha.cG]; omega)];simp only [List.length_map,Sha.cG,List.getElem?_replicate];by_cases h2 : k < 64
   ·rw [if_pos (by omega),if_pos (by omega)]
   ·rw [if_neg (by omega),if_neg (by omega)]
def rz (c : List UInt8) (i k : Nat) : Nat:=((c.drop (4 * i)).take k).foldl (fun x b=>x * 256 + b.toNat) 0
theorem zl (c : List UInt8) (i : Nat) : rz c i 0 = 0:=rfl
theorem lP (c : List UInt8) (i k : Nat) (b : UInt8) (h : c[4 * i + k]? = some b) : rz c i (k + 1) = rz c i k * 256 + b.toNat:=by
 unfold rz;have : (c.drop (4 * i))[k]? = some b:=(by rw [List.getElem?_drop]; exact h);obtain ⟨h1,h2⟩:=List.getElem?_eq_some_iff.1 this;rw [List.take_succ_eq_append_getElem h1,List.foldl_append,h2];rfl
theorem Ni (c : List UInt8) (i k : Nat) (hk : k≤3) : rz c i k < 16777216:=by
 have key : ∀ (l : List UInt8) (x : Nat),l.foldl (fun x b=>x * 256 + b.toNat) x < (x + 1) * 256 ^ l.length:=by
  intro l;induction l with
  | nil=>intro x; simp
  | cons b l ih =>
   intro x;rw [List.foldl_cons];have h1:=ih (x * 256 + b.toNat);have hb:=b.toNat_lt;have h2 : (x * 256 + b.toNat + 1) * 256 ^ l.length≤((x + 1) * 256) * 256 ^ l.length:=Nat.mul_le_mul_right _ (by omega);rw [List.length_cons,Nat.pow_succ,Nat.mul_comm (256 ^ l.length),← Nat.mul_assoc];omega
 have h:=key ((c.drop (4 * i)).take k) 0;have hl : ((c.drop (4 * i)).take k).length≤3:=(by simp; omega);have : 256 ^ ((c.drop (4 * i)).take k).length≤256 ^ 3:=Nat.pow_le_pow_right (by decide) hl;unfold rz;omega
theorem HT (c : List UInt8) (p : List Nat) (i : Nat) (hi : i < 16) (hc : c.length = 64) : rz c i 4 = Sha.word c p i:=by
 have g : ∀ j,j < 4→c[4 * i + j]? = some (c.getD (4 * i + j) 0):=fun j hj=>by
  rw [List.getD_eq_getElem?_getD,List.getElem?_eq_getElem (by omega)];rfl
 rw [lP c i 3 _ (g 3 (by omega)),lP c i 2 _ (g 2 (by omega)),lP c i 1 _ (g 1 (by omega)),lP c i 0 _ (g 0 (by omega)),zl];unfold Sha.word;rw [if_pos hi];simp only [Sha.HQ,Nat.add_zero,Nat.zero_mul,Nat.zero_add]
theorem Uc (x : Nat) (b : UInt8) (h : x < 16777216) : Gy .u32 (ko .u32 (x : Int) 8) (cB .u32 (b.toNat : Int)) = ((x * 256 + b.toNat : Nat) : Int):=by
 have hb:=b.toNat_lt;rw [show (8 : Int) = ((8 : Nat) : Int) from rfl,M8 x 8 (by decide),gL rfl];have e1 : x * 2 ^ 8 % 4294967296 = x * 256:=(by omega);have e2 : b.toNat % 2 ^ IntKind.u32.bits = b.toNat:=(by simp only [IntKind.bits]; omega);rw [e1,e2,ZT _ _ (by omega) (by omega)];have:=Nat.shiftLeft_add_eq_or_of_lt (b:=b.toNat) (i:=8) (by omega) x;rw [Nat.shiftLeft_eq] at this;rw [show x * 256 = x * 2 ^ 8 from rfl,← this]
theorem se : ∀ (xs cs : List AV) (off : Nat),off + xs.length≤cs.length→bn cs off xs = cs.take off ++ xs ++ cs.drop (off + xs.length)
 | [],cs,off,_=>by simp [bn]
 | x :: xs,cs,off,h=>by
  simp only [List.length_cons] at h;rw [bn,se xs _ _ (by simp; omega)];have e1 : List.take (off + 1) (cs.set off x) = List.take off cs ++ [x]:=by
   rw [List.take_succ_eq_append_getElem (by simp; omega)];simp [List.take_set_of_le]
  have e2 : List.drop (off + 1 + xs.length) (cs.set off x) = List.drop (off + (xs.length + 1)) cs:=by
   rw [List.drop_set_of_lt (by omega),show off + 1 + xs.length = off + (xs.length + 1) from by omega]
  rw [e1,e2];simp
theorem bx (cs xs : List AV) (h : cs.length = xs.length) : bn cs 0 xs = xs:=by
 rw [se xs cs 0 (by omega)];simp [← h]
theorem z138 : ba prog 246 = some (List.replicate 64 (wV 0)):=by kernel_rfl
theorem Ud (l : List Nat) : (l.map wV).all AV.one = true:=by
 rw [List.all_eq_true];intro x hx;obtain ⟨n,_,rfl⟩:=List.mem_map.1 hx;rfl
theorem q64 : nC .i64 ((64 : Nat) : Int) 4 = 16:=by decide
theorem cS (i : Nat) (h : i < 2 ^ 62) : eu .i64 (i : Int) 1 = ((i + 1 : Nat) : Int):=by
 rw [gC (by omega)];rfl
theorem FG (i : Nat) (h : i < 64) : lj .i64 4 (i : Int) = ((4 * i : Nat) : Int):=by
 rw [fc (by omega)];omega
theorem gg (a b : Nat) (h : a + b < 9223372036854775808) : eu .i64 (a : Int) (b : Int) = ((a + b : Nat) : Int):=by
 rw [gC (by omega)];omega
theorem Nj (a : Nat) (h : a < 2 ^ 62) : eu .i64 (a : Int) 4 = ((a + 4 : Nat) : Int):=gg a 4 (by omega)
theorem gO (a b : Nat) (hb : b≤a) (h : a < 9223372036854775808) : eC .i64 (a : Int) (b : Int) = ((a - b : Nat) : Int):=by
 rw [dM (by omega)];omega
theorem DD (c : List UInt8) (hc : c.length = 64) (s : AS) :
  ah prog Γ 233 [aj c .any] s (fun r s'=>r = .agg ((Sha.lV c 64).map wV)∧s' = s):=by
 refine ab func233 rfl ntmps233 results233 (by simp) ?_;refine jS @z138 fun K hK=>?_;intro o2 iR;refine hK _ _ ?_;clear hK K;refine jS @z138 fun K hK=>?_;intro o3 oY;refine hK _ _ ?_;clear hK K;obtain ⟨l6,A5⟩:=AS.fj oY;clear oY;rw [← row_zero c];refine wK fun K hK=>?_;refine jA ?_;refine al ?_;have gy : (aj c .any : AV) = .sl 1 64 (c.map ai) .any:=(by rw [aj,hc]);refine aE (fun E s1=>∃ i : Nat,i≤64∧E 0 = .sl 1 64 (c.map ai) .any∧E 2 = .ptr o2 0∧E 3 = .ptr o3 0∧E 7 = .v (.int .i64 i)∧s1 = (s.set o2 (row c 0)).set o3 (row c i))
  (fun E _=>match E 7 with | .v (.int _ i)=>64 - i.toNat | _=>0) ?_ ?_
 ·exact ⟨0,by omega,by simp [aF,br,hc],by simp [aF],by simp [aF],by simp [aF],rfl⟩
 ·rintro E1 s1 ⟨i,hi,e0,e2,e3,e7,rfl⟩ -
  by_cases bc : i < 64
  ·have im : (i : Int) < 64:=(by omega);have Gs : (i : Int) < ((64 : Nat) : Int):=(by omega);refine jB (Ai @e7 (decide_eq_true im)) ?_;refine wK fun K2 aW=>?_;refine jE ?_;refine ag ?_;refine aW _ _ ?_;clear aW K2;refine wK fun K3 bC=>?_;refine al ?_;refine jB @e7 ?_;have dU : ∀ E4 : Env,E4 0 = .sl 1 64 (c.map ai) .any→E4 2 = .ptr o2 0→E4 3 = .ptr o3 0→E4 7 = .v (.int .i64 i)→K3 E4 ((s.set o2 (row c 0)).set o3 (row c (i + 1))):=by
    intro E4 f0 f2 f3 f7;refine bC _ _ ?_;clear bC K3;refine jD (Ai @f7 (cS i (by omega))) ?_;refine ⟨⟨i + 1,by omega,f0,f2,f3,rfl,rfl⟩,?_⟩;simp only [e7,aF,↓reduceIte];omega
   clear bC;refine wK fun K4 ei=>?_;by_cases Qp : i < 16
   ·have Nl : (i : Int) < 16:=(by omega);refine jB (Ai @e0 (Ai @e7 @q64)) ?_;refine wC fun X Y hX hY=>?_;simp only [UP,DF,Nc,↓reduceIte,DB];refine ⟨fun _=>hX ?_,fun h=>absurd Nl h⟩;clear hX hY X Y;have Gl : (0 : Int)≤((4 * i : Nat) : Int):=(by omega);have hlh : ((4 * i : Nat) : Int)≤((4 * i + 4 : Nat) : Int):=(by omega);have xdp : ((4 * i + 4 : Nat) : Int)≤((64 : Nat) : Int):=(by omega);refine wK fun K5 lU=>?_;refine jB (Ai @e0 (Ai @e7 (Ai (FG i bc) (Ai (Nj (4 * i) (by omega)) (Ai @Gl (Ai @hlh (Ai @xdp @Nat.add_sub_cancel_left))))))) ?_;refine al ?_;obtain ⟨Xs,hXs⟩ : ∃ Xs,Xs = List.map ai (List.drop (4 * i) (List.take (4 * i + 4) c)):=⟨_,rfl⟩;have hXk : ∀ k,k < 4→List.take 1 (List.drop k Xs) = [ai (c.getD (4 * i + k) 0)]:=by
     intro k hk;have : Xs[k]? = some (ai (c.getD (4 * i + k) 0)):=by
      rw [hXs,List.getElem?_map,List.getElem?_drop,List.getElem?_take,if_pos (by omega),List.getElem?_eq_getElem (by omega)];simp only [Option.map_some,List.getD,List.getElem?_eq_getElem (show 4 * i + k < c.length by omega),Option.getD_some]
     rw [drop_cons _ _ _ this];rfl
    rw [← hXs];refine aE (fun E s2=>∃ k : Nat,k≤4∧E 0 = .sl 1 64 (c.map ai) .any∧E 2 = .ptr o2 0∧E 3 = .ptr o3 0∧E 7 = .v (.int .i64 i)∧E 4 = .v (.int .i64 i)∧E 21 = .sl 1 4 Xs .any∧E 22 = .v (.int .i64 4)∧E 23 = .v (.int .i64 k)∧s2 = (s.set o2 (row c 0)).set o3 (rowP c i (rz c i k)))
     (fun E _=>match E 23 with | .v (.int _ k)=>4 - k.toNat | _=>0) ?_ ?_
    ·refine ⟨0,by omega,e0,e2,e3,e7,rfl,rfl,rfl,rfl,by rw [zl,Kz c i bc]⟩
    ·rintro E2 s2 ⟨k,hk,g0,g2,g3,g7,g4,g21,g22,g23,rfl⟩ -
     by_cases oT : k < 4
     ·have D8 : (k : Int) < 4:=(by omega);have Zk : (0 : Int)≤(k : Int):=(by omega);have Wc : (k : Int) < ((4 : Nat) : Int):=(by omega);have ic : (0 : Int)≤(i : Int):=(by omega);refine jB (Ai @g23 (Ai @g22 (decide_eq_true D8))) ?_;refine wK fun K6 kn=>?_;refine jE ?_;refine ag ?_;refine kn _ _ ?_;clear kn K6;refine wK fun K7 wu=>?_;refine al ?_;obtain ⟨b,hb⟩ : ∃ b,b = c.getD (4 * i + k) 0:=⟨_,rfl⟩;have Qq : c[4 * i + k]? = some b:=by
       rw [hb,List.getD_eq_getElem?_getD,List.getElem?_eq_getElem (by omega)];rfl
      have ZW:=hXk k oT;rw [← hb] at ZW;refine jB (Ai @g21 (Ai @g23 (Ai @Zk (Ai @D8 (Ai @Wc @ZW))))) ?_;obtain ⟨v,hv⟩ : ∃ v,v = rz c i k:=⟨_,rfl⟩;have hv3 : v < 16777216:=(by rw [hv]; exact Ni c i k (by omega));rw [← hv];have hd:=KA c i v bc;have cg : (rowP c i v).set i (wV (v * 256 + b.toNat)) = rowP c i (rz c i (k + 1)):=(by rw [M9,lP c i k b Qq,hv]);have hlen:=Nd c i v hi;obtain ⟨R,hR⟩ : ∃ R,R = rowP c i v:=⟨_,rfl⟩;rw [← hR] at hd cg hlen ⊢;refine wE fun K hK=>?_;simp only [↓DN,Qa,Qb,Qc,Qd,Qe,Qf,Qg,Qh,reduceCtorEq,↓reduceIte,Na,Nb,Nc,Nk,Nf,Ng,Nh,Za,Zb,Zc,TT,g3,g4,ic,im,Gs,hd,ai,Uc v b hv3,cg,hlen,bc];refine ⟨by omega,hK _ _ ?_⟩;clear hK K;simp only [aw,az,if_true,if_false];refine wu _ _ ?_;clear wu K7;refine jD (Ai @g23 (cS k (by omega))) ?_;refine ⟨⟨k + 1,by omega,g0,g2,g3,g7,g4,g21,g22,rfl,rfl⟩,?_⟩;simp only [g23,aF,↓reduceIte];omega
     ·have D8 : ¬ (k : Int) < 4:=(by omega);obtain rfl : k = 4:=(by omega);refine jB (Ai @g23 (Ai @g22 (decide_eq_false D8))) ?_;refine wK fun K6 kn=>?_;refine jF ?_;refine aC ?_;simp only [az,aw,if_true];clear kn K6;refine lU _ _ ?_;clear lU K5;refine aC ?_;simp only [az,aw,if_true];rw [HT c (Sha.lV c i) i Qp hc];have : rowP c i (Sha.word c (Sha.lV c i) i) = row c (i + 1):=xz c i bc;rw [this];exact dU _ g0 g2 g3 g7
   ·have Nl : ¬ (i : Int) < 16:=(by omega);have ic : (0 : Int)≤(i : Int):=(by omega);refine jB (Ai @e0 (Ai @e7 @q64)) ?_;refine wC fun X Y hX hY=>?_;simp only [UP,DF,Nc,↓reduceIte,DB];refine ⟨fun h=>absurd h Nl,fun _=>hY ?_⟩;clear hX hY X Y;refine ag ?_;refine ei _ _ ?_;clear ei K4;have n2 : (0 : Int)≤((i - 2 : Nat) : Int):=(by omega);have n7 : (0 : Int)≤((i - 7 : Nat) : Int):=(by omega);have n15 : (0 : Int)≤((i - 15 : Nat) : Int):=(by omega);have n16 : (0 : Int)≤((i - 16 : Nat) : Int):=(by omega);have m2 : ((i - 2 : Nat) : Int) < ((64 : Nat) : Int):=(by omega);have m7 : ((i - 7 : Nat) : Int) < ((64 : Nat) : Int):=(by omega);have Sc : ((i - 15 : Nat) : Int) < ((64 : Nat) : Int):=(by omega);have Qr : ((i - 16 : Nat) : Int) < ((64 : Nat) : Int):=(by omega);have s2 : eC .i64 (i : Int) 2 = ((i - 2 : Nat) : Int):=gO i 2 (by omega) (by omega);have s7 : eC .i64 (i : Int) 7 = ((i - 7 : Nat) : Int):=gO i 7 (by omega) (by omega);have s15 : eC .i64 (i : Int) 15 = ((i - 15 : Nat) : Int):=gO i 15 (by omega) (by omega);have Lj : eC .i64 (i : Int) 16 = ((i - 16 : Nat) : Int):=gO i 16 (by omega) (by omega);have d2:=kh c i (i - 2) (by omega);have d7:=kh c i (i - 7) (by omega);have d15:=kh c i (i - 15) (by omega);have d16:=kh c i (i - 16) (by omega);have hw : Sha.word c (Sha.lV c i) i = Sha.ep (Sha.ep (Sha.ep (Sha.DC ((Sha.lV c i).getD (i - 2) 0) 17 19 10) ((Sha.lV c i).getD (i - 7) 0)) (Sha.DC ((Sha.lV c i).getD (i - 15) 0) 7 18 3)) ((Sha.lV c i).getD (i - 16) 0):=(by rw [Sha.word,if_neg Qp]);have cg:=xz c i bc;rw [hw] at cg;have hlen:=dk c i hi;have l2:=Sha.mA c i (i - 2);have Qs:=Sha.mA c i (i - 15);generalize (Sha.lV c i).getD (i - 2) 0 = x2 at *
    generalize (Sha.lV c i).getD (i - 7) 0 = x7 at *
    generalize (Sha.lV c i).getD (i - 15) 0 = x15 at *
    generalize (Sha.lV c i).getD (i - 16) 0 = x16 at *
    obtain ⟨R,hR⟩ : ∃ R,R = row c i:=⟨_,rfl⟩;rw [← hR] at d2 d7 d15 d16 cg hlen ⊢;refine cw T.mixed [(o3,R)] [5,15] [4,9,14,20] [23] (by kernel_rfl) (by simp only [aD,aG,and_true]; simp [AS.set,aF]) ?_;intro K hK;simp only [↓bd,↓aS,cZ,cV,aL,aO,aD,aG,List.any_cons,List.any_nil,List.contains_cons,List.contains_nil,Nat.reduceBEq,Bool.or_false,Bool.or_true,Bool.or_self,Bool.false_or,↓DN,Qa,Qb,Qc,Qd,Qe,Qf,Qg,Qh,reduceCtorEq,↓reduceIte,Na,Nb,Nc,Nk,Nf,Ng,Nh,Za,Zb,Zc,TT,e3,e7,ic,Gs,n2,n7,n15,n16,m2,m7,Sc,Qr,s2,s7,s15,Lj,d2,d7,d15,d16,l6];refine ad (ry x2 17 19 10 l2 (by omega) (by omega) (by omega) (by omega) (by omega) (by omega) _) ?_;rintro r sa ⟨rfl,rfl⟩;simp only [↓bI,↓bp,bL,↓bd,↓aS,cZ,cV,aL,aO,aD,aG,List.any_cons,List.any_nil,DX,Nat.reduceBEq,↓DN,Qa,Qb,Qc,Qd,Qe,Qf,Qg,Qh,reduceCtorEq,↓reduceIte,Na,Nb,Nc,Nk,Nf,Ng,Nh,Za,Zb,Zc,TT,e3,e7,ic,Gs,n2,n7,n15,n16,m2,m7,Sc,Qr,s2,s7,s15,Lj,d2,d7,d15,d16,l6,tV];refine ad (ry x15 7 18 3 Qs (by omega) (by omega) (by omega) (by omega) (by omega) (by omega) _) ?_;rintro r sb ⟨rfl,rfl⟩;simp only [↓bI,↓bp,bL,↓bd,↓aS,cZ,cV,aL,aO,aD,aG,List.any_cons,List.any_nil,DX,Nat.reduceBEq,↓DN,Qa,Qb,Qc,Qd,Qe,Qf,Qg,Qh,reduceCtorEq,↓reduceIte,Na,Nb,Nc,Nk,Nf,Ng,Nh,Za,Zb,Zc,TT,e3,e7,ic,Gs,n2,n7,n15,n16,m2,m7,Sc,Qr,s2,s7,s15,Lj,d2,d7,d15,d16,l6,tV,cg,hlen];refine ⟨by omega,hK _ _ ?_⟩;clear hK K;simp only [aw,az,if_true,if_false];exact dU _ e0 e2 e3 e7
  ·have im : ¬ (i : Int) < 64:=(by omega);obtain rfl : i = 64:=(by omega);refine jB (Ai @e7 (decide_eq_false im)) ?_;refine wK fun K2 aW=>?_;refine jF ?_;refine aC ?_;simp only [az,aw,if_true];clear aW K2;refine hK _ _ ?_;clear hK K;rw [FF c];have A6 : ((Sha.lV c 64).map wV).length = 64:=(by simp [Sha.cG]);have cu:=Ud (Sha.lV c 64);have ft : List.take 64 ((Sha.lV c 64).map wV) = (Sha.lV c 64).map wV:=List.take_of_length_le (by omega);obtain ⟨X,hX⟩ : ∃ X,X = (Sha.lV c 64).map wV:=⟨_,rfl⟩;rw [← hX] at A6 cu ft ⊢;refine jS (Ai @e2 (Ai @e3 (Ai @A6 (Ai @ft (Ai @cu (Ai @l6 @l6.symm)))))) fun K hK=>?_;have Gq : (row c 0).length = 64:=dk c 0 (by omega);rw [bx (row c 0) X (by omega)];refine ⟨by omega,hK _ _ ?_⟩;clear hK K;refine a7 ?_;refine ch (v:=.agg X) (o:=o2) (off:=0) e2 (AS.aa _ _ _) (by rw [T.Tx]; decide) (by simp only [↓DN,Qa,Qb,Qc,Qd,Qe,Qf,Qg,Qh,reduceCtorEq,↓reduceIte,Na,Nb,Nc,Nk,Nf,Ng,Nh,Za,Zb,Zc,TT,A6,ft]) ?_;exact ⟨_,s,AV.aA.refl _,AS.aB (AS.aB (AS.aB (AS.le.refl s) iR _) A5 _) iR _,rfl,rfl⟩
abbrev ew (t : Sha.St) : List AV:=[wV t.a,wV t.b,wV t.c,wV t.d,wV t.e,wV t.f,wV t.g,wV t.h]
theorem c8 : ((8 : Nat) : Int) = 8:=rfl
theorem zm (l : List Nat) (i : Nat) (h : i < l.length) : (l.map wV)[i]? = some (wV (l.getD i 0)):=by
 rw [List.getElem?_map,List.getElem?_eq_getElem h];simp [List.getD,List.getElem?_eq_getElem h]
def zn (t u : Sha.St) (i : Nat) : List AV:=(ew (t.add u)).take i ++ (ew t).drop i
theorem Ca (t u : Sha.St) : zn t u 0 = ew t:=rfl
theorem Cb (t u : Sha.St) : zn t u 8 = ew (t.add u):=rfl
theorem FH (t u : Sha.St) (i : Nat) (h : i≤8) : (zn t u i).length = 8:=by
 simp [zn]; omega
theorem at8 {i : Nat} (h : i < 8) : i = 0∨i = 1∨i = 2∨i = 3∨i = 4∨i = 5∨i = 6∨i = 7:=by omega
theorem Cc (t u : Sha.St) (i : Nat) (h : i < 8) : List.drop i (zn t u i) = wV (t.list.getD i 0) :: (ew t).drop (i + 1):=by
 rcases at8 h with rfl | rfl | rfl | rfl | rfl | rfl | rfl | rfl <;> rfl
theorem FI (t u : Sha.St) (i : Nat) (h : i < 8) : (zn t u i).set i (wV (Sha.ep (t.list.getD i 0) (u.list.getD i 0))) = zn t u (i + 1):=by
 rcases at8 h with rfl | rfl | rfl | rfl | rfl | rfl | rfl | rfl <;> rfl
theorem zp (u : Sha.St) (i : Nat) (h : i < 8) : List.drop i (ew u) = wV (u.list.getD i 0) :: (ew u).drop (i + 1):=by
 rcases at8 h with rfl | rfl | rfl | rfl | rfl | rfl | rfl | rfl <;> rfl
theorem Ja (u : Sha.St) : (ew u).all AV.one = true:=rfl
theorem KB (hG : Γ 1 = Sha.K.map wV) (t : Sha.St) (ht : t.ok) (c : List UInt8) (hc : c.length = 64) (s : AS) :
  ah prog Γ 200 [.agg (ew t),aj c .any] s (fun r s'=>r = .agg (ew (Sha.mix t c))∧s' = s):=by
 refine ab func200 rfl ntmps200 results200 (by simp) ?_;refine jQ fun K hK=>?_;intro o2 iR o4 zq;refine hK _ _ ?_;clear hK K;obtain ⟨KC,vn⟩:=AS.fj zq;clear zq;refine jS (Ai @KC @KC.symm) fun K hK=>?_;intro o5 Cd;have Fi : o5≠o4:=(by intro e; simp [e] at Cd);have Qt : o5≠o2:=(by intro e; subst e; simp [Fi] at Cd);have HU : s.aq o5 = none:=(by simpa [Fi,Qt] using Cd);clear Cd;refine hK _ _ ?_;clear hK K;obtain ⟨Z,hZ⟩ : ∃ Z : List AV,Z = [wV 0,wV 0,wV 0,wV 0,wV 0,wV 0,wV 0,wV 0]:=⟨_,rfl⟩;have hZl : Z.length = 8:=(by rw [hZ]; rfl);rw [show ([AV.v (.int .u32 0),AV.v (.int .u32 0),AV.v (.int .u32 0),AV.v (.int .u32 0),AV.v (.int .u32 0),AV.v (.int .u32 0),AV.v (.int .u32 0),AV.v (.int .u32 0)] : List AV) = Z from hZ.symm];refine wK fun K hK=>?_;refine jQ fun K hK=>?_;rw [show AV.sl 1 c.length (List.map ai c) .any = aj c .any from rfl];refine ad (DD c hc _) ?_;rintro r sa ⟨rfl,rfl⟩;refine jR hK ?_;clear hK K;obtain ⟨W,hW⟩ : ∃ W,W = Sha.lV c 64:=⟨_,rfl⟩;have Qu : W.length = 64:=(by rw [hW,Sha.cG]);rw [← hW];refine al ?_;refine aE (fun E s1=>∃ i : Nat,i≤64∧E 2 = .ptr o2 0∧E 4 = .ptr o4 0∧E 5 = .ptr o5 0∧E 15 = .agg (W.map wV)∧E 16 = .v (.int .i64 i)∧s1 = ((s.set o2 (ew t)).set o4 Z).set o5 (ew (Sha.rounds W t i)))
  (fun E _=>match E 16 with | .v (.int _ i)=>64 - i.toNat | _=>0) ?_ ?_
 ·exact ⟨0,by omega,by simp [aF],by simp [aF],by simp [aF],by simp [aF],by simp [aF],rfl⟩
 ·rintro E1 s1 ⟨i,hi,e2,e4,e5,OY,Jb,rfl⟩ -
  by_cases bc : i < 64
  ·have im : (i : Int) < 64:=(by omega);have Gs : (i : Int) < ((64 : Nat) : Int):=(by omega);have ic : (0 : Int)≤(i : Int):=(by omega);refine jB (Ai @Jb (decide_eq_true im)) ?_;refine wK fun K2 aW=>?_;refine jE ?_;refine ag ?_;refine aW _ _ ?_;clear aW K2;refine wK fun K3 bC=>?_;refine al ?_;have hwi:=zm W i (by omega);have hki:=zm Sha.K i (by rw [show Sha.K.length = 64 from rfl]; omega);have ir:=Sha.vl (w:=W) ht i;have Ke : Sha.rounds W t (i + 1) = (Sha.rounds W t i).step (Sha.K.getD i 0) (W.getD i 0):=rfl;generalize W.getD i 0 = wi at *
   generalize Sha.K.getD i 0 = ki at *
   generalize hu : Sha.rounds W t i = u at *
   have Nn : List.drop i (Sha.K.map wV) = wV ki :: List.drop (i + 1) (Sha.K.map wV):=drop_cons _ _ _ hki;refine jB (Ai @OY (Ai @Jb (Ai @ic (Ai @im (Ai @Gs @hwi))))) ?_;refine ef T.mixed [(o5,ew u)] [] [1,3] [] (by kernel_rfl) (by simp only [aD,aG,and_true]; simp [AS.set,aF]) ?_;intro K hK;simp only [↓bd,↓aS,cZ,cV,aL,aO,aD,aG,List.any_cons,List.any_nil,List.contains_cons,List.contains_nil,Nat.reduceBEq,Bool.or_false,Bool.or_true,Bool.or_self,Bool.false_or,↓DN,Qa,Qb,Qc,Qd,Qe,Qf,Qg,Qh,reduceCtorEq,↓reduceIte,Na,Nb,Nc,Nk,Nf,Ng,Nh,Za,Zb,Zc,TT,e5,c8];refine hK _ _ ?_;clear hK K;refine ef T.mixed [(o5,ew u)] [3] [1,7,12] [] (by kernel_rfl) (by simp only [aD,aG,and_true]; simp [AS.set,aF]) ?_;intro K hK;simp only [↓bd,↓aS,cZ,cV,aL,aO,aD,aG,List.any_cons,List.any_nil,List.contains_cons,List.contains_nil,Nat.reduceBEq,Bool.or_false,Bool.or_true,Bool.or_self,Bool.false_or,↓DN,Qa,Qb,Qc,Qd,Qe,Qf,Qg,Qh,reduceCtorEq,↓reduceIte,Na,Nb,Nc,Nk,Nf,Ng,Nh,Za,Zb,Zc,TT,e5,Jb,c8];have HV : ∀ {a b : Nat},a < 4294967296→b < 4294967296→a &&& b < 4294967296:=fun {a b} ha hb=>Nat.lt_of_le_of_lt Nat.and_le_left ha;have ZX : ∀ {a b : Nat},a < 4294967296→b < 4294967296→a ^^^ b < 4294967296:=fun {a b} ha hb=>Nat.xor_lt_two_pow (n:=32) ha hb;have hn : 4294967295 - u.e < 4294967296:=(by omega);refine ad (tW u.e 6 11 25 ir.e (by omega) (by omega) (by omega) (by omega) (by omega) (by omega) _) ?_;rintro r sb ⟨rfl,rfl⟩;simp only [↓bI,↓bp,bL,↓bd,↓aS,cZ,cV,aL,aO,aD,aG,List.any_cons,List.any_nil,DX,Nat.reduceBEq,↓DN,Qa,Qb,Qc,Qd,Qe,Qf,Qg,Qh,reduceCtorEq,↓reduceIte,Na,Nb,Nc,Nk,Nf,Ng,Nh,Za,Zb,Zc,TT,e5,Jb,c8,hG,Nn,ic,Gs,tV,A4 u.e u.f ir.e ir.f,ZU u.e ir.e,A4 (4294967295 - u.e) u.g hn ir.g,oX (u.e &&& u.f) ((4294967295 - u.e) &&& u.g) (HV ir.e ir.f) (HV hn ir.g)];refine hK _ _ ?_;clear hK K;refine ef T.mixed [(o5,ew u)] [1] [4,8,12,14] [] (by kernel_rfl) (by simp only [aD,aG,and_true]; simp [AS.set,aF]) ?_;intro K hK;simp only [↓bd,↓aS,cZ,cV,aL,aO,aD,aG,List.any_cons,List.any_nil,List.contains_cons,List.contains_nil,Nat.reduceBEq,Bool.or_false,Bool.or_true,Bool.or_self,Bool.false_or,↓DN,Qa,Qb,Qc,Qd,Qe,Qf,Qg,Qh,reduceCtorEq,↓reduceIte,Na,Nb,Nc,Nk,Nf,Ng,Nh,Za,Zb,Zc,TT,e5,c8];refine ad (tW u.a 2 13 22 ir.a (by omega) (by omega) (by omega) (by omega) (by omega) (by omega) _) ?_;rintro r sb ⟨rfl,rfl⟩;simp only [↓bI,↓bp,bL,↓bd,↓aS,cZ,cV,aL,aO,aD,aG,List.any_cons,List.any_nil,DX,Nat.reduceBEq,↓DN,Qa,Qb,Qc,Qd,Qe,Qf,Qg,Qh,reduceCtorEq,↓reduceIte,Na,Nb,Nc,Nk,Nf,Ng,Nh,Za,Zb,Zc,TT,e5,c8,tV,A4 u.a u.b ir.a ir.b,A4 u.a u.c ir.a ir.c,A4 u.b u.c ir.b ir.c,oX (u.a &&& u.b) (u.a &&& u.c) (HV ir.a ir.b) (HV ir.a ir.c),oX ((u.a &&& u.b) ^^^ (u.a &&& u.c)) (u.b &&& u.c) (ZX (HV ir.a ir.b) (HV ir.a ir.c)) (HV ir.b ir.c)];refine hK _ _ ?_;clear hK K;refine jD (Ai @e5 (Ai @c8 @tV)) ?_;simp only [aw,az,if_true,if_false];refine bC _ _ ?_;clear bC K3;refine jD (Ai @Jb (cS i (by omega))) ?_;refine ⟨⟨i + 1,by omega,e2,e4,e5,OY,rfl,?_⟩,?_⟩
   ·rw [Ke];simp only [ew,Sha.St.step,Sha.t1,Sha.t2]
   ·simp only [Jb,aF,↓reduceIte];omega
  ·have im : ¬ (i : Int) < 64:=(by omega);obtain rfl : i = 64:=(by omega);refine jB (Ai @Jb (decide_eq_false im)) ?_;refine wK fun K2 aW=>?_;refine jF ?_;refine aC ?_;simp only [az,aw,if_true];clear aW K2;refine hK _ _ ?_;clear hK K;have Qv : Sha.mix t c = t.add (Sha.rounds W t 64):=(by rw [hW]; rfl);rw [Qv];generalize Sha.rounds W t 64 = u;rw [← Ca t u];refine wK fun K hK=>?_;refine jA ?_;refine al ?_;refine aE (fun E s1=>∃ i : Nat,i≤8∧E 2 = .ptr o2 0∧E 4 = .ptr o4 0∧E 5 = .ptr o5 0∧E 83 = .v (.int .i64 i)∧s1.aq o2 = some (zn t u i)∧s1.aq o5 = some (ew u)∧s1.aq o4 = some Z∧s.le s1)
    (fun E _=>match E 83 with | .v (.int _ i)=>8 - i.toNat | _=>0) ?_ ?_
   ·refine ⟨0,by omega,e2,e4,e5,rfl,?_,AS.aa _ _ _,?_,AS.aB (AS.aB (AS.aB (AS.le.refl s) iR _) vn _) HU _⟩
    ·rw [AS.ae _ Qt.symm,AS.ae _ KC.symm,AS.aa]
    ·rw [AS.ae _ Fi.symm,AS.aa]
   ·rintro E2 s2 ⟨i,hi,g2,g4,g5,VA,j2,j5,j4,hle⟩ -
    by_cases bc : i < 8
    ·have im : (i : Int) < 8:=(by omega);have ic : (0 : Int)≤(i : Int):=(by omega);refine jB (Ai @VA (decide_eq_true im)) ?_;refine wK fun K2 aW=>?_;refine jE ?_;refine ag ?_;refine aW _ _ ?_;clear aW K2;refine wK fun K3 bC=>?_;refine al ?_;refine jB @VA ?_;have d2:=Cc t u i bc;have d5:=zp u i bc;have cg:=FI t u i bc;have hlen:=FH t u i hi;generalize t.list.getD i 0 = x at *
     generalize u.list.getD i 0 = y at *
     obtain ⟨X,hX⟩ : ∃ X,X = zn t u i:=⟨_,rfl⟩;rw [← hX] at d2 cg hlen j2;obtain ⟨Y,hY⟩ : ∃ Y,Y = ew u:=⟨_,rfl⟩;rw [← hY] at d5 j5;refine cw T.mixed [(o2,X),(o5,Y)] [] [2,5] [8] (by kernel_rfl) (by simp only [aD,aG,and_true]; simp [AS.set,aF,j2,j5]) ?_;intro K hK;simp only [↓bd,↓aS,cZ,cV,aL,aO,aD,aG,List.any_cons,List.any_nil,List.contains_cons,List.contains_nil,Nat.reduceBEq,Bool.or_false,Bool.or_true,Bool.or_self,Bool.false_or,↓DN,Qa,Qb,Qc,Qd,Qe,Qf,Qg,Qh,reduceCtorEq,↓reduceIte,Na,Nb,Nc,Nk,Nf,Ng,Nh,Za,Zb,Zc,TT,g2,g5,VA,c8,ic,im,d2,d5,Qt,Qt.symm,j2,j5,tV,cg,hlen];refine ⟨by omega,hK _ _ ?_⟩;clear hK K;simp only [aw,az,if_true,if_false];refine bC _ _ ?_;clear bC K3;refine jD (Ai @VA (cS i (by omega))) ?_;refine ⟨⟨i + 1,by omega,g2,g4,g5,rfl,AS.aa _ _ _,by rw [AS.ae _ Qt,j5,hY],by rw [AS.ae _ KC]; exact j4,AS.aB hle iR _⟩,?_⟩;simp only [VA,aF,↓reduceIte];omega
    ·have im : ¬ (i : Int) < 8:=(by omega);obtain rfl : i = 8:=(by omega);refine jB (Ai @VA (decide_eq_false im)) ?_;refine wK fun K2 aW=>?_;refine jF ?_;refine aC ?_;simp only [az,aw,if_true];clear aW K2;refine hK _ _ ?_;clear hK K;rw [Cb] at j2;have cu:=Ja (t.add u);have hlen : (ew (t.add u)).length = 8:=rfl;have ft : List.take 8 (ew (t.add u)) = ew (t.add u):=rfl;obtain ⟨X,hX⟩ : ∃ X,X = ew (t.add u):=⟨_,rfl⟩;rw [← hX] at j2 cu hlen ft ⊢;refine jS (Ai @g2 (Ai @g4 (Ai @j2 (Ai @j4 (Ai @hlen (Ai @ft @cu)))))) fun K hK=>?_;rw [bx Z X (by omega)];refine ⟨by omega,hK _ _ ?_⟩;clear hK K;refine a7 ?_;refine ch (v:=.agg X) (o:=o4) (off:=0) g4 (AS.aa _ _ _) (by rw [T.Tw]; decide) (by simp only [↓DN,Qa,Qb,Qc,Qd,Qe,Qf,Qg,Qh,reduceCtorEq,↓reduceIte,Na,Nb,Nc,Nk,Nf,Ng,Nh,Za,Zb,Zc,TT,hlen,ft]) ?_;exact ⟨_,s,AV.aA.refl _,AS.aB hle vn _,rfl,rfl⟩
theorem rQ : ((0 : Nat) : Int) = 0:=rfl
theorem HW (n : Nat) (hn : n≤2 ^ 45) (s : AS) :
  ah prog Γ 216 [.v (.slice none 0 0),.v (.int .i64 (n : Int))] s (fun r s'=>dX s [] r s'):=by
 refine ab func216 rfl ntmps216 results216 (by simp) ?_;have Ap : ¬ ((n : Int) < 0):=(by omega);have p8 : eC .i64 (n : Int) (eC .i64 ((0 : Nat) : Int) ((0 : Nat) : Int)) = (n : Int):=by
  rw [show eC .i64 ((0 : Nat) : Int) ((0 : Nat) : Int) = 0 from by decide,dM (by omega)];omega
 refine jA ?_;refine wK fun K hK=>?_;refine jB (decide_eq_false Ap) ?_;refine jF ?_;refine ag ?_;refine hK _ _ ?_;clear hK K;refine wK fun K hK=>?_;refine jB @p8 ?_;have Fm : ∀ (E : Env) (r : AV) (s1 : AS),E 0 = r→dX s [] r s1→K E s1:=by
  intro E r s1 h0 h1;refine hK _ _ ?_;clear hK K;refine jB @h0 ?_;refine jI ?_;exact ⟨_,_,AV.aA.refl _,AS.le.refl _,h1⟩
 clear hK;by_cases h0 : n = 0
 ·subst h0;refine jA ?_;refine wC fun X Y hX hY=>?_;simp only [UP,DF,Nc,↓reduceIte,DB];refine ⟨fun h=>absurd h (by decide),fun _=>hY ?_⟩;clear hX hY X Y;refine ag ?_;exact Fm _ _ _ (by simp only [aF,br,Nc,↓reduceIte]; rfl) (dX.nil s)
 ·have hgt : (0 : Int) < (n : Int):=(by omega);refine jB (decide_eq_true hgt) ?_;refine jE ?_;refine yy (k:=.i64) (e:=5) (z:=[.v (.int .u8 0)]) rfl rfl rfl (by decide) rfl rfl rfl (by decide) underlying23 underlying23 underlying3 ⟨T.z5,by rw [T.c5]; decide,by rw [T.c5]; rfl⟩ T.c5 ?_;intro ops;refine jP @rQ ?_;refine ⟨n,rfl,h0,by omega,by omega,fun t v ht=>?_⟩;exact Fm _ (.sl 1 0 [] (.own t 0)) _ rfl ⟨AS.bG (AS.le.refl s) ht 0,.inr ⟨t,0,ht,AS.js _ _ _,rfl⟩⟩
def gu (ls : List (List UInt8)) : List AV:=ls.map fun l=>aj l .any
theorem zr (ls : List (List UInt8)) (i : Nat) (h : i < ls.length) : List.take 1 (List.drop i (gu ls)) = [aj ls[i] .any]:=by
 have : (gu ls)[i]? = some (aj ls[i] .any):=(by simp [gu,h]);rw [drop_cons _ _ _ this];rfl
theorem Ce (ls : List (List UInt8)) (i : Nat) (h : i < ls.length) : (ls.take (i + 1)).flatten = (ls.take i).flatten ++ ls[i]:=by
 rw [List.take_succ_eq_append_getElem h,List.flatten_append,List.flatten_cons,List.flatten_nil,List.append_nil]
theorem Jc (ls : List (List UInt8)) (i : Nat) : (ls.take i).flatten.length≤ls.flatten.length:=by
 have : ls.flatten = (ls.take i).flatten ++ (ls.drop i).flatten:=(by rw [← List.flatten_append,List.take_append_drop]);rw [this,List.length_append];omega
theorem kU (ls : List (List UInt8)) (sp : Sp) (hn : ls.length≤2 ^ 45) (hl : ls.flatten.length≤2 ^ 45) (s : AS) :
  ah prog Γ 186 [.sl 1 ls.length (gu ls) sp] s (fun r s'=>dX s ls.flatten r s'):=by
 refine ab func186 rfl ntmps186 results186 (by simp) ?_;refine jA ?_;refine jA ?_;refine wK fun K hK=>?_;refine jA ?_;refine al ?_;refine aE (fun E s1=>∃ i : Nat,i≤ls.length∧E 0 = .sl 1 ls.length (gu ls) sp∧E 3 = .v (.int .i64 ((ls.take i).flatten.length : Nat))∧E 9 = .sl 1 ls.length (gu ls) sp∧E 10 = .v (.int .i64 ls.length)∧E 11 = .v (.int .i64 i)∧s1 = s)
  (fun E _=>match E 11 with | .v (.int _ i)=>ls.length - i.toNat | _=>0) ?_ ?_
 ·exact ⟨0,Nat.zero_le _,by simp [aF,br],by simp [aF],by simp [aF,br],by simp [aF],by simp [aF],rfl⟩
 ·rintro E1 s1 ⟨i,hi,e0,e3,e9,VB,w9,rfl⟩ -
  by_cases bc : i < ls.length
  ·have bS : (i : Int) < (ls.length : Int):=(by omega);have dr : (0 : Int)≤(i : Int):=(by omega);have oW:=Jc ls (i + 1);have tX:=Ce ls i bc;have gn:=zr ls i bc;generalize ls[i] = l at *
   refine jB (Ai @VB (Ai @w9 (decide_eq_true bS))) ?_;refine wK fun K2 aW=>?_;refine jE ?_;refine ag ?_;refine aW _ _ ?_;clear aW K2;refine wK fun K3 bC=>?_;refine al ?_;refine jB (Ai @e9 (Ai @w9 (Ai @dr (Ai @bS @gn)))) ?_;have eI : eu .i64 ((ls.take i).flatten.length : Int) (l.length : Int) = ((ls.take (i + 1)).flatten.length : Int):=by
    rw [tX,List.length_append];rw [tX,List.length_append] at oW;exact gg _ _ (by omega)
   refine jB (Ai @e3 @eI) ?_;have Ap : ¬ (((ls.take (i + 1)).flatten.length : Int) < 0):=(by omega);refine jB (decide_eq_false Ap) ?_;refine jF ?_;refine ag ?_;simp only [az,aw,if_true,if_false];refine bC _ _ ?_;clear bC K3;refine jD (Ai @w9 (cS i (by omega))) ?_;refine ⟨⟨i + 1,by omega,e0,rfl,e9,VB,rfl,rfl⟩,?_⟩;simp only [w9,aF,↓reduceIte];omega
  ·have bS : ¬ (i : Int) < (ls.length : Int):=(by omega);obtain rfl : i = ls.length:=(by omega);rw [List.take_of_length_le (Nat.le_refl _)] at e3;refine jB (Ai @VB (Ai @w9 (decide_eq_false bS))) ?_;refine wK fun K2 aW=>?_;refine jF ?_;refine aC ?_;simp only [az,aw,if_true];clear aW K2;refine hK _ _ ?_;clear hK K;refine jS @e3 fun K hK=>?_;refine ad (HW ls.flatten.length hl _) ?_;intro r sa bu;refine jR hK ?_;clear hK K;refine wK fun K hK=>?_;refine jB @e0 ?_;refine al ?_;refine aE (fun E s2=>∃ i : Nat,i≤ls.length∧E 25 = .sl 1 ls.length (gu ls) sp∧E 26 = .v (.int .i64 ls.length)∧E 27 = .v (.int .i64 i)∧dX s1 (ls.take i).flatten (E 6) s2)
    (fun E _=>match E 27 with | .v (.int _ i)=>ls.length - i.toNat | _=>0) ?_ ?_
   ·exact ⟨0,Nat.zero_le _,rfl,rfl,rfl,by simpa only [aF,Nc,↓reduceIte,List.take_zero,List.flatten_nil] using bu⟩
   ·rintro E2 s2 ⟨i,hi,VC,g26,ZY,sf⟩ -
    by_cases bc : i < ls.length
    ·have bS : (i : Int) < (ls.length : Int):=(by omega);have dr : (0 : Int)≤(i : Int):=(by omega);have oW:=Jc ls (i + 1);have tX:=Ce ls i bc;have gn:=zr ls i bc;generalize ls[i] = l at *
     refine jB (Ai @g26 (Ai @ZY (decide_eq_true bS))) ?_;refine wK fun K2 aW=>?_;refine jE ?_;refine ag ?_;refine aW _ _ ?_;clear aW K2;refine wK fun K3 bC=>?_;refine al ?_;refine jB (Ai @VC (Ai @ZY (Ai @dr (Ai @bS @gn)))) ?_;generalize tY : E2 6 = r6 at sf;refine jU @tY fun K hK=>?_;have hb : (ls.take i).flatten.length + l.length≤2 ^ 45:=by
      rw [tX,List.length_append] at oW;omega
     refine dm sf rfl rfl T.c5 T.b5 hb ?_;intro r2 s3 Sd;rw [← tX] at Sd;refine hK _ _ ?_;clear hK K;simp only [az,aw,if_true,if_false];refine bC _ _ ?_;clear bC K3;refine jD (Ai @ZY (cS i (by omega))) ?_;refine ⟨⟨i + 1,by omega,VC,g26,rfl,by simpa only [aF,Nc,↓reduceIte] using Sd⟩,?_⟩;simp only [ZY,aF,↓reduceIte];omega
    ·have bS : ¬ (i : Int) < (ls.length : Int):=(by omega);obtain rfl : i = ls.length:=(by omega);rw [List.take_of_length_le (Nat.le_refl _)] at sf;refine jB (Ai @g26 (Ai @ZY (decide_eq_false bS))) ?_;refine wK fun K2 aW=>?_;refine jF ?_;refine aC ?_;simp only [az,aw,if_true];clear aW K2;refine hK _ _ ?_;clear hK K;generalize tY : E2 6 = r6 at sf;refine jB @tY ?_;refine jI ?_;exact ⟨_,_,AV.aA.refl _,AS.le.refl _,sf⟩
theorem ct {s s' : AS} {l : List UInt8} {r : AV} (h : dX s l r s') (h0 : l≠[]) : ∃ t e,r = .sl 1 l.length (l.map ai) (.own t e):=by
 rcases h.2 with ⟨rfl,_⟩ | ⟨t,e,_,_,rfl⟩
 ·exact absurd rfl h0
 ·exact ⟨t,e,rfl⟩
theorem Jd (a : Nat) : mV (a : Int) 64 = ((a % 64 : Nat) : Int):=nO a 64
theorem FJ (n j : Nat) (h : j < 8) : (Sha.xd n)[j]? = some (UInt8.ofNat (8 * n / 2 ^ (8 * (7 - j)))):=by
 have : j = 0∨j = 1∨j = 2∨j = 3∨j = 4∨j = 5∨j = 6∨j = 7:=(by omega);rcases this with rfl | rfl | rfl | rfl | rfl | rfl | rfl | rfl <;> simp [Sha.xd]
theorem FK {α : Type} (l : List α) (j : Nat) (x : α) (h : l[j]? = some x) : l.take (j + 1) = l.take j ++ [x]:=by
 obtain ⟨h1,h2⟩:=List.getElem?_eq_some_iff.1 h;rw [List.take_succ_eq_append_getElem h1,h2]
theorem xA (x : Nat) : ai (UInt8.ofNat x) = .v (.int .u8 (cB .u8 (x : Int))):=by
 rw [gL rfl];simp [ai,IntKind.bits]
theorem Qw (n j : Nat) (hj : j < 8) (hn : n≤2 ^ 45) : fa .i64 (lj .i64 8 (n : Int)) (lj .i64 8 ((7 - j : Nat) : Int)) = ((8 * n / 2 ^ (8 * (7 - j)) : Nat) : Int):=by
 rw [fc (by omega),fc (by omega),show (8 : Int) * (n : Int) = ((8 * n : Nat) : Int) from by omega,show (8 : Int) * ((7 - j : Nat) : Int) = ((8 * (7 - j) : Nat) : Int) from by omega,iu];simp only [IntKind.bits];rw [Nat.min_eq_left (by omega)]
theorem Se {a b : Int} (h : a≠b) : (a != b) = true:=by simpa using h
theorem Sf {a b : Int} (h : a = b) : (a != b) = false:=by simpa using h
theorem Qx (n : Nat) (hn : n≤2 ^ 45) (j : Nat) (hj : j < 8) : ¬ (lj .i64 8 ((7 - j : Nat) : Int) < 0):=by
 rw [fc (by omega)];omega
theorem DE (l : List UInt8) (hl : l.length≤2 ^ 44) (s s1 : AS) (r0 : AV) (h : dX s l r0 s1) :
  ah prog Γ 199 [r0] s1 (fun r s'=>dX s (Sha.pad l) r s'):=by
 refine ab func199 rfl ntmps199 results199 (by simp) ?_;refine jA ?_;refine wS fun K hK=>?_;have hc : ∀ E : Env,E 0 = r0→E 3 = .v (.int .i64 l.length)→K E s1:=by
  intro E e0 e3;refine hK _ _ ?_;clear hK K;refine wS fun K hK=>?_;simp only [↓DN,Qa,Qb,Qc,Qd,Qe,Qf,Qg,Qh,reduceCtorEq,↓reduceIte,Na,Nb,Nc,Nk,Nf,Ng,Nh,Za,Zb,Zc,TT,e0,List.replicate_one,Nat.lt_irrefl];refine dm (ds:=[128]) h rfl rfl T.c5 T.b5 (by simp; omega) ?_;intro r2 s2 h2;refine hK _ _ ?_;clear hK K;refine wK fun K hK=>?_;refine al ?_;refine aE (fun E s2=>∃ k : Nat,k≤Sha.gJ l.length∧E 3 = .v (.int .i64 l.length)∧dX s (l ++ [128] ++ List.replicate k 0) (E 0) s2)
   (fun E s2=>match E 0 with | .sl _ n _ _=>l.length + 1 + Sha.gJ l.length - n | _=>0) ?_ ?_
  ·exact ⟨0,Nat.zero_le _,e3,by simpa only [aF,↓reduceIte,List.replicate_zero,List.append_nil] using h2⟩
  ·rintro E2 s3 ⟨k,hk,g3,sf⟩ -
   refine wK fun K2 aW=>?_;obtain ⟨t,e,g0⟩:=ct sf (by simp);have hlen : (l ++ [128] ++ List.replicate k 0).length = l.length + 1 + k:=(by simp; omega);generalize hL : l ++ [128] ++ List.replicate k 0 = L at *
   have hLn : L≠[]:=(by intro e'; rw [e'] at hlen; simp only [List.length_nil] at hlen; omega);by_cases oT : k = Sha.gJ l.length
   ·have h56 : L.length % 64 = 56:=(by rw [hlen,oT,Sha.gJ]; omega);have hb:=Sf (show ((L.length % 64 : Nat) : Int) = 56 by omega);refine jB (Ai @g0 (Ai @Jd @hb)) ?_;refine wC fun X Y hX hY=>?_;refine jP (Ai @DB @hb) ?_;refine hY ?_;clear hX hY X Y;refine aC ?_;simp only [az,aw,if_true];clear aW K2;refine hK _ _ ?_;clear hK K;rw [← g0];refine wK fun K hK=>?_;refine jA ?_;refine al ?_;refine aE (fun E s2=>∃ j : Nat,j≤8∧E 3 = .v (.int .i64 l.length)∧E 4 = .v (.int .i64 ((7 : Int) - j))∧dX s (L ++ (Sha.xd l.length).take j) (E 0) s2)
     (fun E s2=>match E 4 with | .v (.int _ i)=>(i + 1).toNat | _=>0) ?_ ?_
    ·exact ⟨0,by omega,g3,rfl,by simpa only [aF,Nc,↓reduceIte,List.take_zero,List.append_nil] using sf⟩
    ·rintro E3 s4 ⟨j,hj,f3,f4,xe⟩ -
     refine wK fun K2 aW=>?_;obtain ⟨t',e',f0⟩:=ct xe (by simp [hLn]);by_cases gQ : j < 8
     ·have dr : (0 : Int)≤(7 : Int) - j:=(by omega);refine jB (Ai @f4 (decide_eq_true dr)) ?_;refine jE ?_;refine ag ?_;refine aW _ _ ?_;clear aW K2;refine wK fun K3 bC=>?_;refine al ?_;have e7 : (7 : Int) - j = ((7 - j : Nat) : Int):=(by omega);rw [e7] at f4;have yo:=Qx l.length (by omega) j gQ;have hsh:=Qw l.length j gQ (by omega);generalize tY : E3 0 = r6 at xe;refine wE fun K hK=>?_;simp only [↓DN,Qa,Qb,Qc,Qd,Qe,Qf,Qg,Qh,reduceCtorEq,↓reduceIte,Na,Nb,Nc,Nk,Nf,Ng,Nh,Za,Zb,Zc,TT,tY,f3,f4,yo,hsh,List.replicate_one,Nat.lt_irrefl];refine dm (ds:=[UInt8.ofNat (8 * l.length / 2 ^ (8 * (7 - j)))]) xe rfl (by rw [List.map_cons,xA]; rfl) T.c5 T.b5 (by rw [List.length_append,List.length_take,hlen]; unfold Sha.gJ at hk; simp only [List.length_cons,List.length_nil]; omega) ?_;intro r2 s5 h5;rw [List.append_assoc,← FK _ _ _ (FJ l.length j gQ)] at h5;refine hK _ _ ?_;clear hK K;simp only [az,aw,if_true,if_false];refine bC _ _ ?_;clear bC K3;have xdu : eC .i64 ((7 - j : Nat) : Int) 1 = (7 : Int) - ((j + 1 : Nat) : Int):=by
       rw [dM (by omega)];omega
      refine jD (Ai @f4 @xdu) ?_;refine ⟨⟨j + 1,by omega,f3,rfl,by simpa only [aF,Nc,↓reduceIte] using h5⟩,?_⟩;simp only [f4,aF,↓reduceIte];omega
     ·have dr : ¬ (0 : Int)≤(7 : Int) - j:=(by omega);obtain rfl : j = 8:=(by omega);refine jB (Ai @f4 (decide_eq_false dr)) ?_;refine jF ?_;refine aC ?_;simp only [az,aw,if_true];clear aW K2;refine hK _ _ ?_;clear hK K;have yI : L ++ (Sha.xd l.length).take 8 = Sha.pad l:=by
       rw [← hL,oT,Sha.pad,show (Sha.xd l.length).take 8 = Sha.xd l.length from rfl];simp
      rw [yI] at xe;generalize tY : E3 0 = r6 at xe;refine jB @tY ?_;refine jI ?_;exact ⟨_,_,AV.aA.refl _,AS.le.refl _,xe⟩
   ·have h56 : L.length % 64≠56:=(by rw [hlen]; unfold Sha.gJ at hk oT; omega);have hb:=Se (show ((L.length % 64 : Nat) : Int)≠56 by omega);refine jB (Ai @g0 (Ai @Jd @hb)) ?_;refine wC fun X Y hX hY=>?_;refine jP (Ai @DB @hb) ?_;refine hX ?_;clear hX hY X Y;refine ag ?_;refine aW _ _ ?_;clear aW K2;refine al ?_;generalize tY : E2 0 = r6 at sf;refine wE fun K hK=>?_;simp only [↓DN,Qa,Qb,Qc,Qd,Qe,Qf,Qg,Qh,reduceCtorEq,↓reduceIte,Na,Nb,Nc,Nk,Nf,Ng,Nh,Za,Zb,Zc,TT,tY,List.replicate_one,Nat.lt_irrefl];refine dm (ds:=[0]) sf rfl rfl T.c5 T.b5 (by rw [hlen]; unfold Sha.gJ at hk; simp; omega) ?_;intro r2 s2 h2;have hL2 : L ++ [0] = l ++ [128] ++ List.replicate (k + 1) 0:=(by rw [← hL,List.replicate_succ',List.append_assoc _ (List.replicate k 0)]);rw [hL2] at h2;refine hK _ _ ?_;clear hK K;simp only [az,aw,if_true,if_false];obtain ⟨t2,e2,q0⟩:=ct h2 (by simp);refine ⟨⟨k + 1,by omega,g3,by simpa only [aF,↓reduceIte] using h2⟩,?_⟩;rw [tY] at g0;simp only [aF,↓reduceIte,tY,q0,g0,List.length_append,List.length_replicate,List.length_cons,List.length_nil,hlen];omega
 rcases h.2 with ⟨rfl,rfl⟩ | ⟨t,e,_,_,rfl⟩
 ·refine jM ?_;exact hc _ (by simp only [aF,br,Nc,↓reduceIte]; rfl) rfl
 ·refine jM ?_;exact hc _ (by simp only [aF,br,Nc,↓reduceIte]; rfl) rfl
def qg (cs : List AV) (i : Nat) : AV:=.sl 1 64 (List.drop (64 * i) (List.take (64 * i + 64) cs)) .full
theorem FL (cs : List AV) (t e m : Nat) (hl : cs.length = 64 * m) (hm : m≤2 ^ 40) :
  Rv prog Γ 232 [.dq [.sl 1 (64 * m) cs (.own t e)],.dq [.v (.int .i64 64)]] ((List.range m).map (qg cs)):=by
 intro S l G W lb uK Te hs hy
 refine callsIn_of_wp func232 rfl trivial ?_
 have Tp:=Rel.entry (N:=31) (args:=[.v (.func (.yield l) #[] #[]),.dq [.sl 1 (64 * m) cs (.own t e)],.dq [.v (.int .i64 64)]]) (vs:=.func (.yield l) #[] #[] :: lb) hs (by simp only [ar]; exact ⟨_,_,rfl,by simp [au],by simpa only [ar] using Te⟩) (by simp) uK
 rw [show (#[.func (.yield l) #[] #[]] ++ lb.toArray : Array Value) = (.func (.yield l) #[] #[] :: lb).toArray from by simp,ntmps232]
 refine wpIn_seq ?_
 refine lD (l:=none) (K:=fun E1 s1=>E1 0 = .v (.func (.yield l) #[] #[])∧E1 1 = .dq [.sl 1 (64 * m) cs (.own t e)]∧E1 2 = .dq [.v (.int .i64 64)]∧E1 4 = .v (.int .i64 0)∧s1 = S 0) ?_ Tp ?_
 ·simp only [↓DN,Qa,Qb,Qc,Qd,Qe,Qf,Qg,Qh,reduceCtorEq,↓reduceIte,Na,Nb,Nc,Nk,Nf,Ng,Nh,Za,Zb,Zc,TT]
 ·rintro G0 E0 s0 a0 w0 xdw Gq ⟨e0,e1,e2,e4,rfl⟩
  refine wpIn_block ?_
  refine wpIn_loop (fun a w=>∃ (i : Nat) (G1 : Gh) (E1 : Env),i≤m∧G.le G1∧Rel Γ 31 G1 E1 (S i) a w∧E1 0 = .v (.func (.yield l) #[] #[])∧E1 1 = .dq [.sl 1 (64 * m) cs (.own t e)]∧E1 2 = .dq [.v (.int .i64 64)]∧E1 4 = .v (.int .i64 ((64 * i : Nat) : Int)))
   (fun a _=>match a.tmps.getD 4 undef with | .int _ x=>64 * m - x.toNat | _=>0) ⟨0,G0,E0,Nat.zero_le _,xdw,Gq,e0,e1,e2,e4⟩ ?_
  rintro a w ⟨i,G1,E1,hi,hle,hr,e0,e1,e2,e4⟩
  have ZZ : a.tmps.getD 4 undef = .int .i64 ((64 * i : Nat) : Int):=by
   have:=hr.tmps 4
   rw [e4] at this
   simpa only [au] using this
  refine wpIn_seq ?_
  by_cases bc : i < m
  ·have bS : ((64 * i : Nat) : Int) < ((64 * m : Nat) : Int):=by omega
   refine ck.wide (Q:=fun x E' s'=>x = .normal∧s' = S i∧E' 0 = .v (.func (.yield l) #[] #[])∧E' 1 = .dq [.sl 1 (64 * m) cs (.own t e)]∧E' 2 = .dq [.v (.int .i64 64)]∧E' 4 = .v (.int .i64 ((64 * i : Nat) : Int))) ?_ hr ?_
   ·refine jB (Ai @e1 (Ai @e4 (decide_eq_true bS))) ?_
    refine jE ?_
    refine ag ?_
    simp only [aF,e0,e1,e2,e4,Nc,↓reduceIte,and_self]
   ·rintro x G2 E2 s2 a2 w2 fC tj ⟨rfl,rfl,f0,f1,f2,f4⟩
    refine wpIn_seq (wpIn_block (wpIn_seq ?_))
    have h0 : (0 : Int)≤((64 * i : Nat) : Int):=by omega
    have gX : ((64 * i : Nat) : Int)≤((64 * m : Nat) : Int):=by omega
    refine ck.wide (Q:=fun x E' s'=>x = .normal∧s' = S i∧E' 0 = .v (.func (.yield l) #[] #[])∧E' 1 = .dq [.sl 1 (64 * m) cs (.own t e)]∧E' 2 = .dq [.v (.int .i64 64)]∧E' 4 = .v (.int .i64 ((64 * i : Nat) : Int))∧E' 5 = .v (.int .i64 64)) ?_ tj ?_
    ·have xY : ¬ (((64 * m - 64 * i : Nat) : Int) < 64):=by omega
     refine eK T.mixed [] (by kernel_rfl) ?_
     intro K hK
     refine jV (Ai @f1 (Ai @f2 (Ai @f4 (Ai @h0 (Ai @gX (Ai @Int.le_refl @xY)))))) hK ?_;clear hK K
     simp only [aF,f0,f1,f2,f4,Nc,↓reduceIte,and_self]
    ·rintro x G3 E3 s3 a3 w3 Sg rb ⟨rfl,rfl,g0,g1,g2,g4,g5⟩
     refine wpIn_seq ?_
     have HO : eu .i64 ((64 * i : Nat) : Int) 64 = ((64 * i + 64 : Nat) : Int):=gg (64 * i) 64 (by omega)
     have Gl : ((64 * i : Nat) : Int)≤((64 * i + 64 : Nat) : Int):=by omega
     have GC : ((64 * i + 64 : Nat) : Int)≤((64 * m : Nat) : Int):=by omega
     refine uL (l:=l)
      (K1:=fun E' s'=>s' = S i∧E' 0 = .v (.func (.yield l) #[] #[])∧E' 1 = .dq [.sl 1 (64 * m) cs (.own t e)]∧E' 2 = .dq [.v (.int .i64 64)]∧E' 4 = .v (.int .i64 ((64 * i : Nat) : Int))∧E' 28 = qg cs i)
      (K2:=fun E' s'=>s' = S (i + 1)∧E' 0 = .v (.func (.yield l) #[] #[])∧E' 1 = .dq [.sl 1 (64 * m) cs (.own t e)]∧E' 2 = .dq [.v (.int .i64 64)]∧E' 4 = .v (.int .i64 ((64 * i : Nat) : Int))∧E' 30 = .v (.bool false))
      rfl rfl (by decide) ?_ rb ?_ ?_
     ·intro ops
      simp only [↓DN,Qa,Qb,Qc,Qd,Qe,Qf,Qg,Qh,reduceCtorEq,↓reduceIte,Na,Nb,Nc,Nk,Nf,Ng,Nh,Za,Zb,Zc,TT,g0,g1,g2,g4,g5,HO,h0,Gl,GC]
      rw [qg,show 64 * i + 64 - 64 * i = 64 by omega]
     ·rintro ops G4 E4 s4 a4 w4 iJ D9 ⟨rfl,k0,k1,k2,k4,k28⟩
      have hu:=D9.tmps 28
      rw [k28] at hu
      obtain ⟨fn,tmps,assign,body,q1,q2⟩:=hy i (qg cs i) G4 (a4.tmps.getD 28 undef) w4 (by simp [bc]) (hle.trans (fC.trans (Sg.trans iJ))) D9.st hu
      refine ⟨fn,tmps,assign,body,q1,RoundIn.mono (F:=Fence.wide) q2 ?_⟩
      rintro e' W' ⟨rfl,G5,b1,b2⟩
      refine ⟨rfl,G5,S (i + 1),b1,b2,?_⟩
      simp only [↓DN,Qa,Qb,Qc,Qd,Qe,Qf,Qg,Qh,reduceCtorEq,↓reduceIte,Na,Nb,Nc,Nk,Nf,Ng,Nh,Za,Zb,Zc,TT]
      simp only [aF,k0,k1,k2,k4,Nc,↓reduceIte,and_self]
     ·rintro G4 E4 s4 a4 w4 iJ D9 ⟨rfl,k0,k1,k2,k4,k30⟩
      show Code.wpIn Fence.wide 0 _ (Code.cond _ _ _) _ a4 w4
      refine ck.wide (Q:=fun x E' s'=>x = .normal∧s' = S (i + 1)∧E' 0 = .v (.func (.yield l) #[] #[])∧E' 1 = .dq [.sl 1 (64 * m) cs (.own t e)]∧E' 2 = .dq [.v (.int .i64 64)]∧E' 4 = .v (.int .i64 ((64 * i : Nat) : Int))) ?_ D9 ?_
      ·refine fE k30 (ag ?_)
       simp only [k0,k1,k2,k4,and_self]
      ·rintro x G5 E5 s5 a5 w5 gY Px ⟨rfl,rfl,q0,q1,q2,q4⟩
       show Code.wpIn Fence.wide 0 _ (Code.region _ _ _) _ a5 w5
       refine lD (l:=none) (K:=fun E' s'=>s' = S (i + 1)∧E' 0 = .v (.func (.yield l) #[] #[])∧E' 1 = .dq [.sl 1 (64 * m) cs (.own t e)]∧E' 2 = .dq [.v (.int .i64 64)]∧E' 4 = .v (.int .i64 ((64 * (i + 1) : Nat) : Int))) ?_ Px ?_
       ·simp only [↓DN,Qa,Qb,Qc,Qd,Qe,Qf,Qg,Qh,reduceCtorEq,↓reduceIte,Na,Nb,Nc,Nk,Nf,Ng,Nh,Za,Zb,Zc,TT,q0,q1,q2,q4,HO]
        rfl
       ·rintro G6 E6 s6 a6 w6 nv tY ⟨rfl,p0,p1,p2,p4⟩
        refine ⟨⟨i + 1,G6,E6,bc,hle.trans (fC.trans (Sg.trans (iJ.trans (gY.trans nv)))),tY,p0,p1,p2,p4⟩,?_⟩
        have:=tY.tmps 4
        rw [p4] at this
        simp only [au] at this
        rw [this,ZZ]
        simp only [Int.toNat_natCast]
        omega
  ·obtain rfl : i = m:=by omega
   have bS : ¬ ((64 * i : Nat) : Int) < ((64 * i : Nat) : Int):=by omega
   refine ck.wide (Q:=fun x E' s'=>x = .exit 0∧s' = S i) ?_ hr ?_
   ·refine jB (Ai @e1 (Ai @e4 (decide_eq_false bS))) ?_
    refine jF ?_
    refine aC ?_
    exact ⟨rfl,rfl⟩
   ·rintro x G2 E2 s2 a2 w2 fC tj ⟨rfl,rfl⟩
    refine ⟨tj.defers.trans (fC.df.trans (hle.df.trans uK)),.tuple #[],?_,⟨_,rfl⟩,G2,hle.trans fC,by simpa using tj.st⟩
    rw [lz,results232]
    simp
theorem FM (cs : List AV) (n t e : Nat) (s : AS) :
  ah prog Γ 198 [.sl 1 n cs (.own t e),.v (.int .i64 64)] s (fun r s'=>r = .qK 232 [.dq [.sl 1 n cs (.own t e)],.dq [.v (.int .i64 64)]]∧s' = s):=by
 refine ab func198 rfl ntmps198 results198 (by simp) ?_;refine fX 2 3 (by decide) (by decide) (by decide) ?_;intro K hK;refine jM ?_;intro o1 h1 o2 h2;refine hK _ _ o1 o2 _ _ rfl rfl h1 (by rw [AS.hM]; exact h2) ?_;clear hK K;refine wK fun K hK=>?_;refine jA ?_;refine jF ?_;refine ag ?_;refine hK _ _ ?_;clear hK K;refine jA ?_;exact jJ
theorem Cf (l : List UInt8) (i : Nat) (h : 64 * (i + 1)≤l.length) : qg (l.map ai) i = .sl 1 64 ((Sha.nB l i).map ai) .full∧(Sha.nB l i).length = 64:=by
 have e1 : Sha.nB l i = List.drop (64 * i) (List.take (64 * i + 64) l):=by
  rw [Sha.nB,List.drop_take];congr 1;omega
 constructor
 ·rw [qg,e1];simp only [List.map_drop,List.map_take]
 ·simp only [Sha.nB,List.length_take,List.length_drop];omega
def KD (t : Sha.St) (i : Nat) : List UInt8:=((t.list.take i).map Sha.be).flatten
theorem Cg (t : Sha.St) (i : Nat) (h : i < 8) : KD t i ++ Sha.be (t.list.getD i 0) = KD t (i + 1):=by
 rcases at8 h with rfl | rfl | rfl | rfl | rfl | rfl | rfl | rfl <;> rfl
theorem Z1 (x : AV) : List.replicate 4 x = [x,x,x,x]:=rfl
theorem Ch (t : Sha.St) : KD t 8 = t.bytes:=rfl
theorem FN (t : Sha.St) (i : Nat) (h : i≤8) : (KD t i).length = 4 * i:=by
 rcases Nat.lt_or_ge i 8 with h' | h'
 ·rcases at8 h' with rfl | rfl | rfl | rfl | rfl | rfl | rfl | rfl <;> rfl
 ·obtain rfl : i = 8:=(by omega);rfl
theorem Qy (t : Sha.St) (i : Nat) (h : i < 8) : (ew t)[i]? = some (wV (t.list.getD i 0)):=by
 rcases at8 h with rfl | rfl | rfl | rfl | rfl | rfl | rfl | rfl <;> rfl
theorem kZ (ev : Γ 0 = ew Sha.H0) (hG : Γ 1 = Sha.K.map wV) (ls : List (List UInt8)) (sp : Sp) (hn : ls.length≤2 ^ 40) (hl : ls.flatten.length≤2 ^ 40) (s : AS) :
  ah prog Γ 164 [.sl 1 ls.length (gu ls) sp] s (fun r s'=>dX s (Sha.sum ls.flatten) r s'):=by
 generalize oW : ls.flatten = l at *
 have hf:=func164
 refine oH hf rfl (by rw [ntmps164]; simp) ?_
 rw [ntmps164]
 intro G a w uK hr
 refine wpIn_seq ?_
 refine lD (l:=none) (K:=fun E' s'=>s' = s∧E' 0 = .sl 1 ls.length (gu ls) sp) ?_ hr ?_
 ·simp only [↓DN,Qa,Qb,Qc,Qd,Qe,Qf,Qg,Qh,reduceCtorEq,↓reduceIte,Na,Nb,Nc,Nk,Nf,Ng,Nh,Za,Zb,Zc,TT]
 ·rintro G1 E1 s1 a1 w1 sg ra ⟨rfl,e0⟩
  refine wpIn_seq ?_
  refine lD (l:=none) (K:=fun E' s'=>∃ o3,s1.aq o3 = none∧s' = s1.set o3 (ew Sha.H0)∧E' 0 = .sl 1 ls.length (gu ls) sp∧E' 3 = .ptr o3 0) ?_ ra ?_
  ·simp only [↓DN,Qa,Qb,Qc,Qd,Qe,Qf,Qg,Qh,reduceCtorEq,↓reduceIte,Na,Nb,Nc,Nk,Nf,Ng,Nh,Za,Zb,Zc,TT,ev]
   intro o ho
   exact ⟨o,ho,rfl,e0,rfl⟩
  ·rintro G2 E2 s2 a2 w2 fC tj ⟨o3,oY,rfl,f0,f3⟩
   refine wpIn_seq (wpIn_seq ?_)
   have GF:=Sha.r7 l
   have hpm:=Sha.I8 l
   obtain ⟨m,hm⟩ : ∃ m,(Sha.pad l).length = 64 * m:=⟨(Sha.pad l).length / 64,by omega⟩
   have hz : Sha.gJ l.length < 64:=by rw [Sha.gJ]; omega
   refine lD (l:=none) (K:=fun E' s'=>∃ t e,(s1.set o3 (ew Sha.H0)).le s'∧E' 3 = .ptr o3 0∧E' 12 = .qK 232 [.dq [.sl 1 (64 * m) ((Sha.pad l).map ai) (.own t e)],.dq [.v (.int .i64 64)]]) ?_ tj ?_
   ·simp only [↓DN,Qa,Qb,Qc,Qd,Qe,Qf,Qg,Qh,reduceCtorEq,↓reduceIte,Na,Nb,Nc,Nk,Nf,Ng,Nh,Za,Zb,Zc,TT,f0]
    refine ad (kU ls sp (by omega) (by rw [oW]; omega) _) ?_
    intro r sa bu
    rw [oW] at bu
    simp only [↓DN,Qa,Qb,Qc,Qd,Qe,Qf,Qg,Qh,reduceCtorEq,↓reduceIte,Na,Nb,Nc,Nk,Nf,Ng,Nh,Za,Zb,Zc,TT]
    refine ad (DE l (by omega) _ _ _ bu) ?_
    intro r sb bu
    obtain ⟨t,e,Gq⟩:=ct bu (by rw [← List.length_pos_iff]; omega)
    rw [Gq,hm] at *
    simp only [↓DN,Qa,Qb,Qc,Qd,Qe,Qf,Qg,Qh,reduceCtorEq,↓reduceIte,Na,Nb,Nc,Nk,Nf,Ng,Nh,Za,Zb,Zc,TT]
    refine ad (FM _ _ t e _) ?_
    rintro r sc ⟨rfl,rfl⟩
    simp only [↓DN,Qa,Qb,Qc,Qd,Qe,Qf,Qg,Qh,reduceCtorEq,↓reduceIte,Na,Nb,Nc,Nk,Nf,Ng,Nh,Za,Zb,Zc,TT]
    exact ⟨t,e,bu.1,f3,rfl⟩
   ·rintro G3 E3 s3 a3 w3 gX rb ⟨t,e,hse,g3,g12⟩
    refine wpIn_block ?_
    have Je : G.le G3:=sg.trans (fC.trans gX)
    have Z2 : G3.df = []:=Je.df.trans uK
    have Sh : s3.aq o3 = some (ew Sha.H0):=hse.aq _ _ (AS.aa _ _ _)
    have Z3 : m≤2 ^ 40:=by omega
    refine wpIn_mono (yx (p:=13) (g:=.tmp 12) rb Z2 g12 (by kernel_rfl) (FL ((Sha.pad l).map ai) t e m (by simpa using hm) Z3) (by decide) (fun i=>s3.set o3 (ew (Sha.hash (Sha.pad l) i))) (AS.LV Sh) (fun x=>aF (aF E3 13 x) 4 x) ?_ ?_) ?_
    ·rintro lp i x G4 a4 W hx D9
     refine lD (l:=some lp) (K:=fun E' s'=>E' = aF (aF E3 13 x) 4 x∧s' = s3.set o3 (ew (Sha.hash (Sha.pad l) i))) ?_ D9 ?_
     ·simp only [↓DN,Qa,Qb,Qc,Qd,Qe,Qf,Qg,Qh,reduceCtorEq,↓reduceIte,Na,Nb,Nc,Nk,Nf,Ng,Nh,Za,Zb,Zc,TT]
     ·rintro G5 E5 s5 a5 w5 gY Px ⟨rfl,rfl⟩
      exact ⟨rfl,G5,gY,Px⟩
    ·rintro lp i x G4 a4 W hx D9
     refine wpIn_block ?_
     have hi : i < m:=by
      have:=(List.getElem?_eq_some_iff.1 hx).1
      simpa using this
     obtain rfl : qg ((Sha.pad l).map ai) i = x:=by simpa [hi] using hx
     obtain ⟨Vy,gy⟩:=Cf (Sha.pad l) i (by omega)
     refine lD (l:=some lp) (K:=fun E' s'=>s' = s3.set o3 (ew (Sha.hash (Sha.pad l) (i + 1)))) ?_ D9 ?_
     ·simp only [↓DN,Qa,Qb,Qc,Qd,Qe,Qf,Qg,Qh,reduceCtorEq,↓reduceIte,Na,Nb,Nc,Nk,Nf,Ng,Nh,Za,Zb,Zc,TT,g3]
      rw [Vy]
      have JJ:=KB hG (Sha.hash (Sha.pad l) i) (Sha.I9 _ i) (Sha.nB (Sha.pad l) i) gy (s3.set o3 (ew (Sha.hash (Sha.pad l) i)))
      rw [aj,gy] at JJ
      refine ad (ah.iU (.cons (.refl _) (.cons AV.bJ .nil)) JJ) ?_
      rintro r sd ⟨rfl,rfl⟩
      simp only [↓DN,Qa,Qb,Qc,Qd,Qe,Qf,Qg,Qh,reduceCtorEq,↓reduceIte,Na,Nb,Nc,Nk,Nf,Ng,Nh,Za,Zb,Zc,TT,g3]
      rfl
     ·rintro G5 E5 s5 a5 w5 gY Px rfl
      exact ⟨rfl,G5,gY,Px.st⟩
    ·rintro x a4 w4 ⟨rfl,D,G4,iJ,hD,hDk,rfl,ON⟩
     have JT : ((List.range m).map (qg ((Sha.pad l).map ai))).length = m:=by simp
     rw [JT] at ON
     obtain ⟨u,hu⟩ : ∃ u,u = Sha.hash (Sha.pad l) m:=⟨_,rfl⟩
     have Ue : u.bytes = Sha.sum l:=by rw [hu,Sha.sum,hm,Nat.mul_div_cancel_left _ (by decide)]
     rw [← hu] at ON
     have Si : s1.le (s3.set o3 (ew u)):=by
      refine AS.aB (AS.le.trans ?_ hse) oY _
      exact AS.aB (AS.le.refl s1) oY _
     have zq : (s3.set o3 (ew u)).aq o3 = some (ew u):=AS.aa _ _ _
     obtain ⟨s4,xdx⟩ : ∃ s4,s4 = s3.set o3 (ew u):=⟨_,rfl⟩
     rw [← xdx] at ON Si zq
     show Code.wpIn Fence.wide 0 _ _ _ _ w4
     refine ck.behind (Q:=cn prog f164.results.toList (fun r s'=>dX s1 (Sha.sum l) r s')) rb iJ hDk ON Z2 ?_ ?_
     ·refine jA ?_
      refine wK fun K hK=>?_
      refine jB (Ai @g3 @zq) ?_
      refine al ?_
      obtain ⟨Z0,hZ0⟩ : ∃ Z0,Z0 = ew u:=⟨_,rfl⟩
      refine aE (fun E s2=>∃ i : Nat,i≤8∧E 17 = .agg Z0∧E 18 = .v (.int .i64 i)∧dX s1 (KD u i) (E 5) s2)
       (fun E _=>match E 18 with | .v (.int _ i)=>8 - i.toNat | _=>0) ?_ ?_
      ·exact ⟨0,by omega,by simp only [aF,Nc,↓reduceIte,hZ0],by simp only [aF,↓reduceIte]; rfl,Si,.inl ⟨rfl,by simp only [aF,Nc,↓reduceIte]⟩⟩
      ·rintro E5 s5 ⟨i,hi,p17,Z4,zu⟩ -
       by_cases bc : i < 8
       ·have im : (i : Int) < 8:=by omega
        have ic : (0 : Int)≤(i : Int):=by omega
        refine jB (Ai @Z4 (decide_eq_true im)) ?_
        refine wK fun K2 aW=>?_
        refine jE ?_
        refine ag ?_
        refine aW _ _ ?_;clear aW K2
        refine wK fun K3 bC=>?_
        refine al ?_
        have gn:=Qy u i bc
        rw [← hZ0] at gn
        have tX:=Cg u i bc
        have Qz:=FN u i hi
        generalize u.list.getD i 0 = x at *
        have Mb : fa .u32 (x : Int) 24 = ((x / 2 ^ 24 : Nat) : Int):=vm x 24 (by decide)
        have Lj : fa .u32 (x : Int) 16 = ((x / 2 ^ 16 : Nat) : Int):=vm x 16 (by decide)
        have s8 : fa .u32 (x : Int) 8 = ((x / 2 ^ 8 : Nat) : Int):=vm x 8 (by decide)
        refine jB (Ai @p17 (Ai @Z4 (Ai @ic (Ai @im (Ai @c8 @gn))))) ?_
        generalize tY : E5 5 = r6 at zu
        refine jU (Ai @tY (Ai @Mb (Ai @Lj (Ai @s8 @Z1)))) fun K hK=>?_
        refine dm (ds:=Sha.be x) zu rfl (by simp only [Sha.be,List.map_cons,List.map_nil,xA]) T.c5 T.b5 (by rw [Qz]; simp only [Sha.be,List.length_cons,List.length_nil]; omega) ?_
        intro r2 s6 h6
        rw [tX] at h6
        refine hK _ _ ?_
        clear hK
        simp only [az,aw,if_true,if_false]
        refine bC _ _ ?_;clear bC K3
        refine jD (Ai @Z4 (cS i (by omega))) ?_
        refine ⟨⟨i + 1,by omega,by simp only [aF,p17,Nc,↓reduceIte],by simp only [aF,↓reduceIte],by simpa only [aF,Nc,↓reduceIte] using h6⟩,?_⟩
        simp only [Z4,aF,↓reduceIte]
        omega
       ·have im : ¬ (i : Int) < 8:=by omega
        obtain rfl : i = 8:=by omega
        refine jB (Ai @Z4 (decide_eq_false im)) ?_
        refine wK fun K2 aW=>?_
        refine jF ?_
        refine aC ?_
        simp only [az,aw,if_true]
        clear aW K2
        refine hK _ _ ?_;clear hK K
        rw [Ch,Ue] at zu
        generalize tY : E5 5 = r6 at zu
        refine jB @tY ?_
        refine a7 ?_
        rw [results164]
        simp only [cn,bz,bD,dy,List.toList_toArray,↓a8]; try simp only [UP,DF,Nc,↓reduceIte,DT]
        exact ⟨_,_,AV.aA.refl _,AS.le.refl _,zu⟩
     ·intro e5 G5 E5 s5 a5 w5 gY hD5 xdy Px Uf
      refine ⟨?_,D,G5,E5,s5,Je.trans gY,?_,hD5,xdy,Px,?_⟩
      ·cases e5 <;> simp only [cn] at Uf <;> simp
      ·have q1:=rb.st.below.size
       have q2:=rb.st.base
       rw [Je.w0] at q1
       rw [Je.B] at q2
       exact ⟨Nat.le_trans q1 hD,Nat.le_trans q2 hD⟩
      ·cases e5 <;> simp only [cn] at Uf <;> exact Uf
theorem QA (n : Nat) (h : n≤2 ^ 45) : lj .u64 (cB .u64 (n : Int)) 8 = ((8 * n * 2 ^ (8 * 0) % 18446744073709551616 : Nat) : Int):=by
 rw [gL rfl,show (8 : Int) = ((8 : Nat) : Int) from rfl,CI rfl];simp only [IntKind.bits];congr 1;omega
theorem Np (n j : Nat) (hj : j < 8) : cB .u8 (fa .u64 ((8 * n * 2 ^ (8 * j) % 18446744073709551616 : Nat) : Int) 56) = cB .u8 ((8 * n / 2 ^ (8 * (7 - j)) : Nat) : Int):=by
 rw [show (56 : Int) = ((56 : Nat) : Int) from rfl,iu,gL rfl,gL rfl];simp only [IntKind.bits];congr 1;rw [show min 56 64 = 56 from rfl];have : j = 0∨j = 1∨j = 2∨j = 3∨j = 4∨j = 5∨j = 6∨j = 7:=(by omega);rcases this with rfl | rfl | rfl | rfl | rfl | rfl | rfl | rfl <;> simp only [Nat.reduceMul,Nat.reduceSub,Nat.reducePow] <;> omega
theorem QB (n j : Nat) (hj : j < 8) : ko .u64 ((8 * n * 2 ^ (8 * j) % 18446744073709551616 : Nat) : Int) 8 = ((8 * n * 2 ^ (8 * (j + 1)) % 18446744073709551616 : Nat) : Int):=by
 rw [show (8 : Int) = ((8 : Nat) : Int) from rfl,rN rfl];simp only [IntKind.bits];congr 1;rw [show min 8 64 = 8 from rfl];have : j = 0∨j = 1∨j = 2∨j = 3∨j = 4∨j = 5∨j = 6∨j = 7:=(by omega);rcases this with rfl | rfl | rfl | rfl | rfl | rfl | rfl | rfl <;> simp only [Nat.reduceMul,Nat.reduceAdd,Nat.reducePow] <;> omega
theorem DG (l : List UInt8) (hl : l.length≤2 ^ 44) (s : AS) :
  ah prog Γ 209 [.v (.string ⟨l.toArray⟩)] s (fun r s'=>dX s (Sha.pad l) r s'):=by
 refine ab func209 rfl ntmps209 results209 (by simp) ?_;refine jA ?_;refine CW rfl (by decide) ?_;intro ops;refine jM ?_;refine ⟨fun r s'=>dX s l r s',fun G a w hr=>?_,?_⟩
 ·exact CV (l:=l) (src:=9) (dst:=23) (e:=5) (x:=.tmp 6) rfl underlying9 underlying23 underlying5 (by simp only [aI,aF,↓reduceIte]) hr.eval hr.st
 intro r s1 h1;simp only [↓DN,Qa,Qb,Qc,Qd,Qe,Qf,Qg,Qh,reduceCtorEq,↓reduceIte,Na,Nb,Nc,Nk,Nf,Ng,Nh,Za,Zb,Zc,TT,List.replicate_one,Nat.lt_irrefl];refine dm (ds:=[128]) h1 rfl rfl T.c5 T.b5 (by simp; omega) ?_;intro r2 s2 h2;refine wK fun K hK=>?_;refine al ?_;refine aE (fun E s2=>∃ k : Nat,k≤Sha.gJ l.length∧E 0 = .v (.string ⟨l.toArray⟩)∧dX s (l ++ [128] ++ List.replicate k 0) (E 3) s2)
  (fun E s2=>match E 3 with | .sl _ n _ _=>l.length + 1 + Sha.gJ l.length - n | _=>0) ?_ ?_
 ·exact ⟨0,Nat.zero_le _,by simp only [aF,br,Nc,↓reduceIte,List.getD_cons_zero],by simpa only [aF,↓reduceIte,List.replicate_zero,List.append_nil] using h2⟩
 ·rintro E2 s3 ⟨k,hk,g0',sf⟩ -
  refine wK fun K2 aW=>?_;obtain ⟨t,e,g0⟩:=ct sf (by simp);have hlen : (l ++ [128] ++ List.replicate k 0).length = l.length + 1 + k:=(by simp; omega);generalize hL : l ++ [128] ++ List.replicate k 0 = L at *
  have hLn : L≠[]:=(by intro e'; rw [e'] at hlen; simp only [List.length_nil] at hlen; omega);by_cases oT : k = Sha.gJ l.length
  ·have h56 : L.length % 64 = 56:=(by rw [hlen,oT,Sha.gJ]; omega);have hb:=Sf (show ((L.length % 64 : Nat) : Int) = 56 by omega);refine jB (Ai @g0 (Ai @Jd @hb)) ?_;refine wC fun X Y hX hY=>?_;refine jP (Ai @DB @hb) ?_;refine hY ?_;clear hX hY X Y;refine aC ?_;simp only [az,aw,if_true];clear aW K2;refine hK _ _ ?_;clear hK K;rw [← g0];have Qz:=QA l.length (by omega);refine jB (Ai @g0' (Ai @cp @Qz)) ?_;refine wK fun K hK=>?_;refine jA ?_;refine al ?_;refine aE (fun E s2=>∃ j : Nat,j≤8∧E 4 = .v (.int .u64 ((8 * l.length * 2 ^ (8 * j) % 18446744073709551616 : Nat) : Int))∧E 5 = .v (.int .i64 j)∧dX s (L ++ (Sha.xd l.length).take j) (E 3) s2)
    (fun E s2=>match E 5 with | .v (.int _ i)=>8 - i.toNat | _=>0) ?_ ?_
   ·exact ⟨0,by omega,by simp only [aF,Nc,↓reduceIte,Nat.mul_zero,Nat.pow_zero,Nat.mul_one],rfl,by simpa only [aF,Nc,↓reduceIte,List.take_zero,List.append_nil] using sf⟩
   ·rintro E3 s4 ⟨j,hj,f4,f5,xe⟩ -
    refine wK fun K2 aW=>?_;by_cases gQ : j < 8
    ·have dr : (j : Int) < 8:=(by omega);refine jB (Ai @f5 (decide_eq_true dr)) ?_;refine jE ?_;refine ag ?_;refine aW _ _ ?_;clear aW K2;refine wK fun K3 bC=>?_;refine al ?_;have hby:=Np l.length j gQ;have hsh:=QB l.length j gQ;generalize 8 * l.length * 2 ^ (8 * j) % 18446744073709551616 = y at *
     generalize tY : E3 3 = r6 at xe;refine wS fun K hK=>?_;simp only [↓DN,Qa,Qb,Qc,Qd,Qe,Qf,Qg,Qh,reduceCtorEq,↓reduceIte,Na,Nb,Nc,Nk,Nf,Ng,Nh,Za,Zb,Zc,TT,tY,f4,hby,List.replicate_one,Nat.lt_irrefl];refine dm (ds:=[UInt8.ofNat (8 * l.length / 2 ^ (8 * (7 - j)))]) xe rfl (by rw [List.map_cons,xA]; rfl) T.c5 T.b5 (by rw [List.length_append,List.length_take,hlen]; unfold Sha.gJ at hk; simp only [List.length_cons,List.length_nil]; omega) ?_;intro r2 s5 h5;rw [List.append_assoc,← FK _ _ _ (FJ l.length j gQ)] at h5;refine hK _ _ ?_;clear hK K;refine jD (Ai @f4 @hsh) ?_;simp only [az,aw,if_true,if_false];refine bC _ _ ?_;clear bC K3;refine jD (Ai @f5 (cS j (by omega))) ?_;refine ⟨⟨j + 1,by omega,rfl,rfl,by simpa only [aF,Nc,↓reduceIte] using h5⟩,?_⟩;simp only [f5,aF,↓reduceIte];omega
    ·have dr : ¬ (j : Int) < 8:=(by omega);obtain rfl : j = 8:=(by omega);refine jB (Ai @f5 (decide_eq_false dr)) ?_;refine jF ?_;refine aC ?_;simp only [az,aw,if_true];clear aW K2;refine hK _ _ ?_;clear hK K;have yI : L ++ (Sha.xd l.length).take 8 = Sha.pad l:=by
      rw [← hL,oT,Sha.pad,show (Sha.xd l.length).take 8 = Sha.xd l.length from rfl];simp
     rw [yI] at xe;generalize tY : E3 3 = r6 at xe;refine jB @tY ?_;refine jI ?_;exact ⟨_,_,AV.aA.refl _,AS.le.refl _,xe⟩
  ·have h56 : L.length % 64≠56:=(by rw [hlen]; unfold Sha.gJ at hk oT; omega);have hb:=Se (show ((L.length % 64 : Nat) : Int)≠56 by omega);refine jB (Ai @g0 (Ai @Jd @hb)) ?_;refine wC fun X Y hX hY=>?_;refine jP (Ai @DB @hb) ?_;refine hX ?_;clear hX hY X Y;refine ag ?_;refine aW _ _ ?_;clear aW K2;refine al ?_;generalize tY : E2 3 = r6 at sf;refine wE fun K hK=>?_;simp only [↓DN,Qa,Qb,Qc,Qd,Qe,Qf,Qg,Qh,reduceCtorEq,↓reduceIte,Na,Nb,Nc,Nk,Nf,Ng,Nh,Za,Zb,Zc,TT,tY,List.replicate_one,Nat.lt_irrefl];refine dm (ds:=[0]) sf rfl rfl T.c5 T.b5 (by rw [hlen]; unfold Sha.gJ at hk; simp; omega) ?_;intro r2 s2 h2;have hL2 : L ++ [0] = l ++ [128] ++ List.replicate (k + 1) 0:=(by rw [← hL,List.replicate_succ',List.append_assoc _ (List.replicate k 0)]);rw [hL2] at h2;refine hK _ _ ?_;clear hK K;simp only [az,aw,if_true,if_false];obtain ⟨t2,e2,q0⟩:=ct h2 (by simp);refine ⟨⟨k + 1,by omega,g0',by simpa only [aF,↓reduceIte] using h2⟩,?_⟩;rw [tY] at g0;simp only [aF,↓reduceIte,tY,q0,g0,List.length_append,List.length_replicate,List.length_cons,List.length_nil,hlen];omega
theorem QC (a b c d : UInt8) : Gy .u32 (Gy .u32 (Gy .u32 (ko .u32 (cB .u32 (a.toNat : Int)) 24) (ko .u32 (cB .u32 (b.toNat : Int)) 16)) (ko .u32 (cB .u32 (c.toNat : Int)) 8)) (cB .u32 (d.toNat : Int)) = ((Sha.HQ a.toNat b.toNat c.toNat d.toNat : Nat) : Int):=by
 have ha:=a.toNat_lt; have hb:=b.toNat_lt; have hc:=c.toNat_lt; have hd:=d.toNat_lt;have e1 : ∀ x : UInt8,cB .u32 (x.toNat : Int) = ((x.toNat : Nat) : Int):=fun x=>by
  have:=x.toNat_lt;rw [gL rfl];simp only [IntKind.bits];congr 1;omega
 have Mb : ∀ x : Nat,x < 256→ko .u32 (x : Int) 24 = ((x * 16777216 : Nat) : Int):=fun x hx=>by
  have:=M8 x 24 (by decide);rw [show ((24 : Nat) : Int) = 24 from rfl] at this;rw [this];congr 1;simp only [Nat.reducePow];omega
 have Lj : ∀ x : Nat,x < 256→ko .u32 (x : Int) 16 = ((x * 65536 : Nat) : Int):=fun x hx=>by
  have:=M8 x 16 (by decide);rw [show ((16 : Nat) : Int) = 16 from rfl] at this;rw [this];congr 1;simp only [Nat.reducePow];omega
 have s8 : ∀ x : Nat,x < 256→ko .u32 (x : Int) 8 = ((x * 256 : Nat) : Int):=fun x hx=>by
  have:=M8 x 8 (by decide);rw [show ((8 : Nat) : Int) = 8 from rfl] at this;rw [this];congr 1;simp only [Nat.reducePow];omega
 rw [e1,e1,e1,e1];generalize a.toNat = a at *
 generalize b.toNat = b at *
 generalize c.toNat = c at *
 generalize d.toNat = d at *
 rw [Mb a ha,Lj b hb,s8 c hc];have o1 : a * 16777216 ||| b * 65536 = a * 16777216 + b * 65536:=by
  have:=Nat.shiftLeft_add_eq_or_of_lt (b:=b * 65536) (i:=24) (by simp only [Nat.reducePow]; omega) a;rw [Nat.shiftLeft_eq] at this;simp only [Nat.reducePow] at this;exact this.symm
 have o2 : (a * 16777216 + b * 65536) ||| c * 256 = a * 16777216 + b * 65536 + c * 256:=by
  have:=Nat.shiftLeft_add_eq_or_of_lt (b:=c * 256) (i:=16) (by simp only [Nat.reducePow]; omega) (a * 256 + b);rw [Nat.shiftLeft_eq] at this;simp only [Nat.reducePow] at this;have e : (a * 256 + b) * 65536 = a * 16777216 + b * 65536:=(by simp only [Nat.add_mul,Nat.mul_assoc,Nat.reduceMul]);rw [e] at this;exact this.symm
 have o3 : (a * 16777216 + b * 65536 + c * 256) ||| d = a * 16777216 + b * 65536 + c * 256 + d:=by
  have:=Nat.shiftLeft_add_eq_or_of_lt (b:=d) (i:=8) (by simp only [Nat.reducePow]; omega) (a * 65536 + b * 256 + c);rw [Nat.shiftLeft_eq] at this;simp only [Nat.reducePow] at this;have e : (a * 65536 + b * 256 + c) * 256 = a * 16777216 + b * 65536 + c * 256:=(by simp only [Nat.add_mul,Nat.mul_assoc,Nat.reduceMul]);rw [e] at this;exact this.symm
 rw [ZT _ _ (by omega) (by omega),o1,ZT _ _ (by omega) (by omega),o2,ZT _ _ (by omega) (by omega),o3,Sha.HQ];simp only [Nat.add_mul,Nat.mul_assoc,Nat.reduceMul]
structure Kp (oh m : Nat) (pl : List UInt8) (sp : Sp) (i : Nat) (E : Env) : Prop where
 h3 : E 3 = .gw oh 0 1 8 8
 h4 : E 4 = .sl 1 64 (Sha.K.map wV) .no
 h5 : E 5 = .sl 1 (64 * m) (pl.map ai) sp
 h6 : E 6 = .v (.int .i64 ((64 * i : Nat) : Int))
theorem Kp.aF {oh m i d : Nat} {pl : List UInt8} {sp : Sp} {E : Env} {v : AV} (h : Kp oh m pl sp i E) (hd : d≠3∧d≠4∧d≠5∧d≠6) : Kp oh m pl sp i (aF E d v) :=
 ⟨by rw [fu _ _ (Ne.symm hd.1)]; exact h.h3,by rw [fu _ _ (Ne.symm hd.2.1)]; exact h.h4,by rw [fu _ _ (Ne.symm hd.2.2.1)]; exact h.h5,by rw [fu _ _ (Ne.symm hd.2.2.2)]; exact h.h6⟩
structure Kq (ow : Nat) (E : Env) : Prop where
 h7 : E 7 = .gw ow 0 1 64 64
theorem Kq.aF {ow d : Nat} {E : Env} {v : AV} (h : Kq ow E) (hd : d≠7) : Kq ow (aF E d v):=⟨by rw [fu _ _ (Ne.symm hd)]; exact h.h7⟩
structure Kr (cs : List AV) (sp : Sp) (E : Env) : Prop where
 MX : E 13 = .sl 1 8 cs sp
theorem Kr.aF {cs : List AV} {sp : Sp} {d : Nat} {E : Env} {v : AV} (h : Kr cs sp E) (hd : d≠13) : Kr cs sp (aF E d v):=⟨by rw [fu _ _ (Ne.symm hd)]; exact h.MX⟩
theorem xdz (l : List UInt8) (i : Nat) (h : i < l.length) : List.take 1 (List.drop i (l.map ai)) = [.v (.int .u8 ((l.getD i 0).toNat : Int))]:=by
 have : (l.map ai)[i]? = some (ai (l.getD i 0)):=by
  rw [List.getElem?_map,List.getElem?_eq_getElem h];simp only [Option.map_some,List.getD,List.getElem?_eq_getElem h,Option.getD_some]
 rw [drop_cons _ _ _ this];rfl
theorem Nq (l : List UInt8) (i : Nat) (h : i < l.length) : List.map ai (List.take 1 (List.drop i l)) = [.v (.int .u8 ((l.getD i 0).toNat : Int))]:=by
 rw [List.map_take,List.map_drop];exact xdz l i h
theorem Nr (l : List UInt8) (i j : Nat) (h : j < 64) (hl : 64 * i + j < l.length) : (Sha.nB l i).getD j 0 = l.getD (64 * i + j) 0:=by
 simp only [Sha.nB,List.getD_eq_getElem?_getD,List.getElem?_take,if_pos h,List.getElem?_drop]
theorem xdA (x : AV) : List.replicate 8 x = [x,x,x,x,x,x,x,x]:=rfl
theorem Z5 (l : List Nat) (i : Nat) (h : i < l.length) : List.drop i (l.map wV) = wV (l.getD i 0) :: List.drop (i + 1) (l.map wV):=drop_cons _ _ _ (zm l i h)
theorem om (l : List UInt8) (hl : l.length≤2 ^ 40) (s : AS) :
  ah prog Γ 170 [.v (.string ⟨l.toArray⟩)] s (fun r s'=>r = .v (.string ⟨(Sha.sum l).toArray⟩)∧s' = s):=by
 refine ab func170 rfl ntmps170 results170 (by simp) ?_;refine jA ?_;refine CR rfl (by decide) (fun r s'=>∃ ob,s.aq ob = none∧r = .gw ob 0 (prog.cellsOf 214) 8 8∧s' = s.set ob (ew Sha.H0)) (fun G a w hr=>?_) ?_
 ·exact ER (cs:=ew Sha.H0) (e:=214) rfl underlying227 T.Tv (by rw [T.C5]; decide) (by rw [T.C5]; decide) (by rw [T.C5]; rfl) (by simp only [T.C5]; rfl) hr.eval hr.st
 rw [T.C5];rintro r s1 ⟨oh,hoh,rfl,rfl⟩;refine jM ?_;refine jK (HS _) ?_;rintro s2 rfl;refine jQ fun K hK=>?_;refine ad (DG l (by omega) _) ?_;intro r s1 bu;have GF:=Sha.r7 l;have hpm:=Sha.I8 l;obtain ⟨m,hm⟩ : ∃ m,(Sha.pad l).length = 64 * m:=⟨(Sha.pad l).length / 64,by omega⟩;have hz : Sha.gJ l.length < 64:=(by rw [Sha.gJ]; omega);have Z3 : 64 * m≤2 ^ 41:=(by omega);obtain ⟨tk,e,Gq⟩:=ct bu (by rw [← List.length_pos_iff]; omega);rw [hm] at Gq;subst Gq;have hle : s.le s1:=AS.le.trans (AS.aB (AS.le.refl s) hoh _) bu.1;have A7 : s1.aq oh = some (ew Sha.H0):=bu.1.aq _ _ (AS.aa _ _ _);clear bu;refine jR hK ?_;clear hK K;have PB : (Sha.hash (Sha.pad l) m).bytes = Sha.sum l:=(by rw [Sha.sum,hm,Nat.mul_div_cancel_left _ (by decide)]);obtain ⟨pl,xdB⟩ : ∃ pl,pl = Sha.pad l:=⟨_,rfl⟩;rw [← xdB] at hm PB ⊢;refine wK fun K hK=>?_;refine jA ?_;refine al ?_;refine aE (fun E s2=>∃ i : Nat,i≤m∧Kp oh m pl (.own tk e) i E∧s2.aq oh = some (ew (Sha.hash pl i))∧s.le s2)
  (fun E _=>match E 6 with | .v (.int _ x)=>64 * m - x.toNat | _=>0) ?_ ?_
 ·exact ⟨0,Nat.zero_le _,⟨rfl,rfl,rfl,rfl⟩,A7,hle⟩
 ·rintro E1 s2 ⟨i,hi,hk,ho,hle⟩ -
  have e6:=hk.h6;have ZZ:=hk.h6;refine wK fun K2 aW=>?_;by_cases bc : i < m
  ·have bS : ((64 * i : Nat) : Int) < ((64 * m : Nat) : Int):=(by omega);refine jB (Ai @e6 (Ai @hk.h5 (decide_eq_true bS))) ?_;refine jE ?_;refine ag ?_;refine aW _ _ ?_;clear aW K2;refine wK fun K3 bC=>?_;refine al ?_;have gy : (Sha.nB pl i).length = 64:=(Cf pl i (by omega)).2;have Z6 : ∀ j,j < 64→(Sha.nB pl i).getD j 0 = pl.getD (64 * i + j) 0:=fun j hj=>Nr pl i j hj (by omega);have hpg : ∀ j,j < 64 * m→List.map ai (List.take 1 (List.drop j pl)) = [.v (.int .u8 ((pl.getD j 0).toNat : Int))]:=fun j hj=>Nq pl j (by omega);obtain ⟨c,hc⟩ : ∃ c,c = Sha.nB pl i:=⟨_,rfl⟩;rw [← hc] at gy Z6;have Ke : Sha.hash pl (i + 1) = Sha.mix (Sha.hash pl i) c:=(by rw [hc]; rfl);have ir:=Sha.I9 pl i;generalize xi0 : Sha.hash pl i = st at *
   refine jQ fun K hK=>?_;refine ⟨by decide,by decide,fun ow how=>?_⟩;have hwh : ow≠oh:=(fun e'=>by rw [e',ho] at how; cases how);have vp : s.aq ow = none:=by
    cases hs : s.aq ow with
    | none=>rfl
    | some cs=>rw [hle.aq _ _ hs] at how; cases how
   refine hK _ _ ?_;clear hK;rw [show List.replicate 64 (AV.v (.int .u32 0)) = row c 0 from rfl];obtain ⟨E2,hE2⟩ : ∃ E2,E2 = (aF (aF (aF (aF (aF (aF E1 24 (AV.v (Value.int IntKind.i64 ((64 * i : Nat) : Int)))) 25 (AV.sl 1 (64 * m) (List.map ai pl) (Sp.own tk e))) 26 (AV.v (Value.int IntKind.i64 ((64 * m : Nat) : Int)))) 27 (AV.v (Value.bool true))) 30 (AV.gw ow 0 1 64 64)) 7 (AV.gw ow 0 1 64 64)):=⟨_,rfl⟩;have hk : Kp oh m pl (.own tk e) i E2:=by
    rw [hE2];repeat (first | exact hk | refine Kp.aF ?_ (by decide))
   have hq : Kq ow E2:=⟨by rw [hE2]; simp only [aF,↓reduceIte]⟩;rw [← hE2];clear hE2 e6;refine wK fun K4 ei=>?_;refine jA ?_;refine al ?_;refine aE (fun E s3=>∃ t : Nat,t≤16∧Kp oh m pl (.own tk e) i E∧Kq ow E∧E 8 = .v (.int .i64 t)∧s3.aq ow = some (row c t)∧s3.aq oh = some (ew st)∧s.le s3)
    (fun E _=>match E 8 with | .v (.int _ x)=>16 - x.toNat | _=>0) ?_ ?_
   ·exact ⟨0,by omega,(by repeat (first | exact hk | exact hq | refine Kp.aF ?_ (by decide) | refine Kq.aF ?_ (by decide))),(by repeat (first | exact hk | exact hq | refine Kp.aF ?_ (by decide) | refine Kq.aF ?_ (by decide))),rfl,AS.aa _ _ _,by rw [AS.ae _ hwh.symm]; exact ho,AS.aB hle vp _⟩
   ·rintro E3 s3 ⟨t,ht,hk,hq,g8,jw,jh,gX⟩ -
    refine wK fun K5 lU=>?_;by_cases xG : t < 16
    ·have bS : (t : Int) < 16:=(by omega);refine jB (Ai @g8 (decide_eq_true bS)) ?_;refine jE ?_;refine ag ?_;refine lU _ _ ?_;clear lU K5;refine wK fun K6 kn=>?_;refine al ?_;have a0 : eu .i64 ((64 * i : Nat) : Int) ((4 * t : Nat) : Int) = ((64 * i + 4 * t : Nat) : Int):=gg _ _ (by omega);have a1 : eu .i64 ((64 * i + 4 * t : Nat) : Int) 1 = ((64 * i + 4 * t + 1 : Nat) : Int):=gg _ 1 (by omega);have a2 : eu .i64 ((64 * i + 4 * t : Nat) : Int) 2 = ((64 * i + 4 * t + 2 : Nat) : Int):=gg _ 2 (by omega);have a3 : eu .i64 ((64 * i + 4 * t : Nat) : Int) 3 = ((64 * i + 4 * t + 3 : Nat) : Int):=gg _ 3 (by omega);have Z7 : Sha.word c (Sha.lV c t) t = Sha.HQ (pl.getD (64 * i + 4 * t) 0).toNat (pl.getD (64 * i + 4 * t + 1) 0).toNat (pl.getD (64 * i + 4 * t + 2) 0).toNat (pl.getD (64 * i + 4 * t + 3) 0).toNat:=by
      rw [Sha.word,if_pos xG,Z6 _ (by omega),Z6 _ (by omega),Z6 _ (by omega),Z6 _ (by omega)];rfl
     have cg:=xz c t (by omega);rw [Z7] at cg;simp only [wV] at cg;rw [← QC] at cg;have p0:=hpg (64 * i + 4 * t) (by omega);have p1:=hpg (64 * i + 4 * t + 1) (by omega);have p2:=hpg (64 * i + 4 * t + 2) (by omega);have p3:=hpg (64 * i + 4 * t + 3) (by omega);have b0 : ((64 * i + 4 * t : Nat) : Int) < ((64 * m : Nat) : Int):=(by omega);have b1 : ((64 * i + 4 * t + 1 : Nat) : Int) < ((64 * m : Nat) : Int):=(by omega);have b2 : ((64 * i + 4 * t + 2 : Nat) : Int) < ((64 * m : Nat) : Int):=(by omega);have b3 : ((64 * i + 4 * t + 3 : Nat) : Int) < ((64 * m : Nat) : Int):=(by omega);have q0 : (0 : Int)≤((64 * i + 4 * t : Nat) : Int):=(by omega);have q1 : (0 : Int)≤((64 * i + 4 * t + 1 : Nat) : Int):=(by omega);have q2 : (0 : Int)≤((64 * i + 4 * t + 2 : Nat) : Int):=(by omega);have q3 : (0 : Int)≤((64 * i + 4 * t + 3 : Nat) : Int):=(by omega);have gM : (0 : Int)≤(t : Int):=(by omega);have Ns : (t : Int) < ((64 : Nat) : Int):=(by omega);have hlen:=dk c t (by omega);generalize pl.getD (64 * i + 4 * t) 0 = x0 at *
     generalize pl.getD (64 * i + 4 * t + 1) 0 = x1 at *
     generalize pl.getD (64 * i + 4 * t + 2) 0 = x2 at *
     generalize pl.getD (64 * i + 4 * t + 3) 0 = x3 at *
     obtain ⟨R,hR⟩ : ∃ R,R = row c t:=⟨_,rfl⟩;rw [← hR] at cg hlen jw;refine jB (Ai @hk.h6 (Ai @g8 (Ai (FG t (by omega)) @a0))) ?_;refine eK T.mixed [32] (by kernel_rfl) ?_;intro K hK;refine jN (Ai @hk.h5 (Ai @hq.h7 (Ai @g8 (Ai @a1 (Ai @a2 (Ai @a3 (Ai @q0 (Ai @q1 (Ai @q2 (Ai @q3 (Ai @b0 (Ai @b1 (Ai @b2 (Ai @b3 (Ai @p0 (Ai @p1 (Ai @p2 (Ai @p3 (Ai @gM (Ai @Ns (Ai @jw (Ai @cg @hlen)))))))))))))))))))))) ?_;refine ⟨by omega,hK _ _ ?_⟩;clear hK;simp only [az,aw,if_true,if_false];refine kn _ _ ?_;clear kn K6;refine jD (Ai @g8 (cS t (by omega))) ?_;refine ⟨⟨t + 1,by omega,(by repeat (first | exact hk | exact hq | refine Kp.aF ?_ (by decide) | refine Kq.aF ?_ (by decide))),(by repeat (first | exact hk | exact hq | refine Kp.aF ?_ (by decide) | refine Kq.aF ?_ (by decide))),rfl,AS.aa _ _ _,by rw [AS.ae _ hwh.symm]; exact jh,AS.aB gX vp _⟩,?_⟩;simp only [g8,aF,↓reduceIte];omega
    ·have bS : ¬ (t : Int) < 16:=(by omega);obtain rfl : t = 16:=(by omega);refine jB (Ai @g8 (decide_eq_false bS)) ?_;refine jF ?_;refine aC ?_;simp only [az,aw,if_true];clear lU K5;refine ei _ _ ?_;clear ei K4;have hk : Kp oh m pl (.own tk e) i (aF (aF E3 31 (AV.v (.int .i64 ((16 : Nat) : Int)))) 32 (AV.v (.bool false))):=(by repeat (first | exact hk | exact hq | refine Kp.aF ?_ (by decide) | refine Kq.aF ?_ (by decide)));have hq : Kq ow (aF (aF E3 31 (AV.v (.int .i64 ((16 : Nat) : Int)))) 32 (AV.v (.bool false))):=(by repeat (first | exact hk | exact hq | refine Kp.aF ?_ (by decide) | refine Kq.aF ?_ (by decide)));generalize (aF (aF E3 31 (AV.v (.int .i64 ((16 : Nat) : Int)))) 32 (AV.v (.bool false))) = E4 at *
     clear g8;refine wK fun K4 ei=>?_;refine jA ?_;refine al ?_;refine aE (fun E s3=>∃ t : Nat,16≤t∧t≤64∧Kp oh m pl (.own tk e) i E∧Kq ow E∧E 10 = .v (.int .i64 t)∧s3.aq ow = some (row c t)∧s3.aq oh = some (ew st)∧s.le s3)
      (fun E _=>match E 10 with | .v (.int _ x)=>64 - x.toNat | _=>0) ?_ ?_
     ·exact ⟨16,by omega,by omega,(by repeat (first | exact hk | exact hq | refine Kp.aF ?_ (by decide) | refine Kq.aF ?_ (by decide))),(by repeat (first | exact hk | exact hq | refine Kp.aF ?_ (by decide) | refine Kq.aF ?_ (by decide))),rfl,jw,jh,gX⟩
     ·rintro E5 s4 ⟨t,ht,T7,hk,hq,g10,jw,jh,iJ⟩ -
      refine wK fun K5 lU=>?_;by_cases xG : t < 64
      ·have bS : (t : Int) < 64:=(by omega);refine jB (Ai @g10 (decide_eq_true bS)) ?_;refine jE ?_;refine ag ?_;refine lU _ _ ?_;clear lU K5;refine wK fun K6 kn=>?_;refine al ?_;have gM : (0 : Int)≤(t : Int):=(by omega);have Ns : (t : Int) < ((64 : Nat) : Int):=(by omega);have n2 : (0 : Int)≤((t - 2 : Nat) : Int):=(by omega);have n7 : (0 : Int)≤((t - 7 : Nat) : Int):=(by omega);have n15 : (0 : Int)≤((t - 15 : Nat) : Int):=(by omega);have n16 : (0 : Int)≤((t - 16 : Nat) : Int):=(by omega);have m2 : ((t - 2 : Nat) : Int) < ((64 : Nat) : Int):=(by omega);have m7 : ((t - 7 : Nat) : Int) < ((64 : Nat) : Int):=(by omega);have Sc : ((t - 15 : Nat) : Int) < ((64 : Nat) : Int):=(by omega);have Qr : ((t - 16 : Nat) : Int) < ((64 : Nat) : Int):=(by omega);have w2 : eC .i64 (t : Int) 2 = ((t - 2 : Nat) : Int):=gO t 2 (by omega) (by omega);have w7 : eC .i64 (t : Int) 7 = ((t - 7 : Nat) : Int):=gO t 7 (by omega) (by omega);have w15 : eC .i64 (t : Int) 15 = ((t - 15 : Nat) : Int):=gO t 15 (by omega) (by omega);have Z8 : eC .i64 (t : Int) 16 = ((t - 16 : Nat) : Int):=gO t 16 (by omega) (by omega);have d2:=kh c t (t - 2) (by omega);have d7:=kh c t (t - 7) (by omega);have d15:=kh c t (t - 15) (by omega);have d16:=kh c t (t - 16) (by omega);have hw : Sha.word c (Sha.lV c t) t = Sha.ep (Sha.ep (Sha.ep (Sha.DC ((Sha.lV c t).getD (t - 2) 0) 17 19 10) ((Sha.lV c t).getD (t - 7) 0)) (Sha.DC ((Sha.lV c t).getD (t - 15) 0) 7 18 3)) ((Sha.lV c t).getD (t - 16) 0):=(by rw [Sha.word,if_neg (by omega)]);have cg:=xz c t xG;rw [hw] at cg;have hlen:=dk c t T7;have l2:=Sha.mA c t (t - 2);have Qs:=Sha.mA c t (t - 15);generalize (Sha.lV c t).getD (t - 2) 0 = y at *
       generalize (Sha.lV c t).getD (t - 7) 0 = x7 at *
       generalize (Sha.lV c t).getD (t - 15) 0 = x at *
       generalize (Sha.lV c t).getD (t - 16) 0 = x16 at *
       obtain ⟨R,hR⟩ : ∃ R,R = row c t:=⟨_,rfl⟩;rw [← hR] at d2 d7 d15 d16 cg hlen jw;have y10 : fa .u32 (y : Int) 10 = ((y / 2 ^ 10 : Nat) : Int):=vm y 10 (by decide);have x3 : fa .u32 (x : Int) 3 = ((x / 2 ^ 3 : Nat) : Int):=vm x 3 (by decide);have v1:=oX _ _ (Sha.cq 17 l2) (Sha.cq 19 l2);have v2:=oX _ _ (Nat.xor_lt_two_pow (n:=32) (Sha.cq 17 l2) (Sha.cq 19 l2)) (Nat.lt_of_le_of_lt (Nat.div_le_self y (2 ^ 10)) l2);have v3:=oX _ _ (Sha.cq 7 Qs) (Sha.cq 18 Qs);have v4:=oX _ _ (Nat.xor_lt_two_pow (n:=32) (Sha.cq 7 Qs) (Sha.cq 18 Qs)) (Nat.lt_of_le_of_lt (Nat.div_le_self x (2 ^ 3)) Qs);have u1 : (Sha.mb y 17 ^^^ Sha.mb y 19) ^^^ (y / 2 ^ 10) = Sha.DC y 17 19 10:=rfl;have u2 : (Sha.mb x 7 ^^^ Sha.mb x 18) ^^^ (x / 2 ^ 3) = Sha.DC x 7 18 3:=rfl;rw [u1] at v2;rw [u2] at v4;simp only [Nat.reducePow] at y10 x3 v2 v4;refine ef T.mixed [(ow,R)] [] [4,9] [] (by kernel_rfl) (by simp only [aD,aG,and_true]; simp [AS.set,aF,jw]) ?_;intro K hK;simp only [↓bd,↓aS,cZ,cV,aL,aO,aD,aG,List.any_cons,List.any_nil,List.contains_cons,List.contains_nil,Nat.reduceBEq,Bool.or_false,Bool.or_true,Bool.or_self,Bool.false_or,↓DN,Qa,Qb,Qc,Qd,Qe,Qf,Qg,Qh,reduceCtorEq,↓reduceIte,Na,Nb,Nc,Nk,Nf,Ng,Nh,Za,Zb,Zc,TT,hq.h7,g10,w2,w15,n2,n15,m2,Sc,d2,d15,jw];refine hK _ _ ?_;clear hK K;refine cw T.mixed [(ow,R)] [3,5,17,19] [14,29] [32] (by kernel_rfl) (by simp only [aD,aG,and_true]; simp [AS.set,aF,jw]) ?_;intro K hK;simp only [↓bd,↓aS,cZ,cV,aL,aO,aD,aG,List.any_cons,List.any_nil,List.contains_cons,List.contains_nil,Nat.reduceBEq,Bool.or_false,Bool.or_true,Bool.or_self,Bool.false_or,↓DN,Qa,Qb,Qc,Qd,Qe,Qf,Qg,Qh,reduceCtorEq,↓reduceIte,Na,Nb,Nc,Nk,Nf,Ng,Nh,Za,Zb,Zc,TT,hq.h7,g10,w7,Z8,n7,n16,m7,Qr,d7,d16,jw];refine ad (dG y 17 l2 (by omega) (by omega) _) ?_;rintro r sa ⟨rfl,rfl⟩;simp only [↓bI,↓bp,bL,↓bd,↓aS,cZ,cV,aL,aO,aD,aG,List.any_cons,List.any_nil,DX,Nat.reduceBEq,↓DN,Qa,Qb,Qc,Qd,Qe,Qf,Qg,Qh,reduceCtorEq,↓reduceIte,Na,Nb,Nc,Nk,Nf,Ng,Nh,Za,Zb,Zc,TT,hq.h7,g10,w7,Z8,n7,n16,m7,Qr,d7,d16,jw];refine ad (dG y 19 l2 (by omega) (by omega) _) ?_;rintro r sb ⟨rfl,rfl⟩;simp only [↓bI,↓bp,bL,↓bd,↓aS,cZ,cV,aL,aO,aD,aG,List.any_cons,List.any_nil,DX,Nat.reduceBEq,↓DN,Qa,Qb,Qc,Qd,Qe,Qf,Qg,Qh,reduceCtorEq,↓reduceIte,Na,Nb,Nc,Nk,Nf,Ng,Nh,Za,Zb,Zc,TT,hq.h7,g10,w7,Z8,n7,n16,m7,Qr,d7,d16,jw,y10,v1,v2,tV];refine ad (dG x 7 Qs (by omega) (by omega) _) ?_;rintro r sc ⟨rfl,rfl⟩;simp only [↓bI,↓bp,bL,↓bd,↓aS,cZ,cV,aL,aO,aD,aG,List.any_cons,List.any_nil,DX,Nat.reduceBEq,↓DN,Qa,Qb,Qc,Qd,Qe,Qf,Qg,Qh,reduceCtorEq,↓reduceIte,Na,Nb,Nc,Nk,Nf,Ng,Nh,Za,Zb,Zc,TT,hq.h7,g10,w7,Z8,n7,n16,m7,Qr,d7,d16,jw,y10,v1,v2,tV];refine ad (dG x 18 Qs (by omega) (by omega) _) ?_;rintro r sd ⟨rfl,rfl⟩;simp only [↓bI,↓bp,bL,↓bd,↓aS,cZ,cV,aL,aO,aD,aG,List.any_cons,List.any_nil,DX,Nat.reduceBEq,↓DN,Qa,Qb,Qc,Qd,Qe,Qf,Qg,Qh,reduceCtorEq,↓reduceIte,Na,Nb,Nc,Nk,Nf,Ng,Nh,Za,Zb,Zc,TT,hq.h7,g10,w7,Z8,n7,n16,m7,Qr,d7,d16,jw,x3,v3,v4,tV,gM,Ns,cg,hlen];refine ⟨by omega,hK _ _ ?_⟩;clear hK;simp only [az,aw,if_true,if_false];refine kn _ _ ?_;clear kn K6;refine jD (Ai @g10 (cS t (by omega))) ?_;refine ⟨⟨t + 1,by omega,by omega,(by repeat (first | exact hk | exact hq | refine Kp.aF ?_ (by decide) | refine Kq.aF ?_ (by decide))),(by repeat (first | exact hk | exact hq | refine Kp.aF ?_ (by decide) | refine Kq.aF ?_ (by decide))),rfl,AS.aa _ _ _,by rw [AS.ae _ hwh.symm]; exact jh,AS.aB iJ vp _⟩,?_⟩;simp only [g10,aF,↓reduceIte];omega
      ·have bS : ¬ (t : Int) < 64:=(by omega);obtain rfl : t = 64:=(by omega);refine jB (Ai @g10 (decide_eq_false bS)) ?_;refine jF ?_;refine aC ?_;simp only [az,aw,if_true];clear lU K5;refine ei _ _ ?_;clear ei K4;have hk : Kp oh m pl (.own tk e) i (aF (aF E5 71 (AV.v (.int .i64 ((64 : Nat) : Int)))) 72 (AV.v (.bool false))):=(by repeat (first | exact hk | exact hq | refine Kp.aF ?_ (by decide) | refine Kq.aF ?_ (by decide)));have hq : Kq ow (aF (aF E5 71 (AV.v (.int .i64 ((64 : Nat) : Int)))) 72 (AV.v (.bool false))):=(by repeat (first | exact hk | exact hq | refine Kp.aF ?_ (by decide) | refine Kq.aF ?_ (by decide)));generalize (aF (aF E5 71 (AV.v (.int .i64 ((64 : Nat) : Int)))) 72 (AV.v (.bool false))) = E6 at *
       clear g10;rw [FF] at jw;obtain ⟨W,hW⟩ : ∃ W,W = Sha.lV c 64:=⟨_,rfl⟩;have Qu : W.length = 64:=(by rw [hW,Sha.cG]);have Qv : Sha.mix st c = st.add (Sha.rounds W st 64):=(by rw [hW]; rfl);rw [← hW] at jw;have xi2 : (ew st).length = 8:=rfl;have xi3 : List.take 8 (ew st) = ew st:=rfl;have xhc:=Ja st;refine jS (Ai @hk.h3 @jh) fun K hK=>?_;intro tt Ug;refine hK _ _ ?_;clear hK;have Z9 : s.own tt = none:=by
        cases hs : s.own tt with
        | none=>rfl
        | some g=>rw [iJ.own _ _ hs] at Ug; cases Ug
       have gY : s.le (s4.bo tt 0):=AS.bG iJ Z9 _;have jw5 : (s4.bo tt 0).aq ow = some (W.map wV):=jw;have jh5 : (s4.bo tt 0).aq oh = some (ew st):=jh;generalize s4.bo tt 0 = s5 at *
       refine wK fun K4 ei=>?_;refine jA ?_;refine al ?_;refine aE (fun E s3=>∃ t : Nat,t≤64∧Kp oh m pl (.own tk e) i E∧Kq ow E∧(∃ sp',Kr (ew (Sha.rounds W st t)) sp' E)∧E 14 = .v (.int .i64 t)∧s3.aq ow = some (W.map wV)∧s3.aq oh = some (ew st)∧s.le s3)
        (fun E _=>match E 14 with | .v (.int _ x)=>64 - x.toNat | _=>0) ?_ ?_
       ·exact ⟨0,by omega,(by repeat (first | exact hk | exact hq | refine Kp.aF ?_ (by decide) | refine Kq.aF ?_ (by decide))),(by repeat (first | exact hk | exact hq | refine Kp.aF ?_ (by decide) | refine Kq.aF ?_ (by decide))),⟨.own tt 0,by refine Kr.aF ?_ (by decide); exact ⟨rfl⟩⟩,rfl,jw5,jh5,gY⟩
       ·rintro E7 s6 ⟨t,ht,hk,hq,⟨sp',hv⟩,g14,jw,jh,nv⟩ -
        refine wK fun K5 lU=>?_;have kK:=Sha.vl (w:=W) ir t;have xdE : Sha.rounds W st (t + 1) = (Sha.rounds W st t).step (Sha.K.getD t 0) (W.getD t 0):=rfl;generalize hu : Sha.rounds W st t = u at *
        by_cases xG : t < 64
        ·have bS : (t : Int) < 64:=(by omega);refine jB (Ai @g14 (decide_eq_true bS)) ?_;refine jE ?_;refine ag ?_;refine lU _ _ ?_;clear lU K5;refine wK fun K6 kn=>?_;refine al ?_;have gM : (0 : Int)≤(t : Int):=(by omega);have Ns : (t : Int) < ((64 : Nat) : Int):=(by omega);have hwd:=Z5 W t (by omega);have Nn:=Z5 Sha.K t (by rw [show Sha.K.length = 64 from rfl]; omega);generalize W.getD t 0 = wi at *
         generalize Sha.K.getD t 0 = ki at *
         obtain ⟨KL,hKL⟩ : ∃ KL,KL = Sha.K.map wV:=⟨_,rfl⟩;obtain ⟨WL,hWL⟩ : ∃ WL,WL = W.map wV:=⟨_,rfl⟩;have g4:=hk.h4;rw [← hKL] at Nn g4;rw [← hWL] at hwd jw;have xdF : List.take 1 (List.drop t KL) = [wV ki]:=(by rw [Nn]; rfl);have g13:=hv.MX;have HV : ∀ {a b : Nat},a < 4294967296→b < 4294967296→a &&& b < 4294967296:=fun {a b} ha hb=>Nat.lt_of_le_of_lt Nat.and_le_left ha;have ZX : ∀ {a b : Nat},a < 4294967296→b < 4294967296→a ^^^ b < 4294967296:=fun {a b} ha hb=>Nat.xor_lt_two_pow (n:=32) ha hb;have hn : 4294967295 - u.e < 4294967296:=(by omega);have z1:=oX _ _ (Sha.cq 6 kK.e) (Sha.cq 11 kK.e);have z2:=oX _ _ (ZX (Sha.cq 6 kK.e) (Sha.cq 11 kK.e)) (Sha.cq 25 kK.e);have z3 : (Sha.mb u.e 6 ^^^ Sha.mb u.e 11) ^^^ Sha.mb u.e 25 = Sha.MZ u.e 6 11 25:=rfl;rw [z3] at z2;have z4:=oX _ _ (Sha.cq 2 kK.a) (Sha.cq 13 kK.a);have z5:=oX _ _ (ZX (Sha.cq 2 kK.a) (Sha.cq 13 kK.a)) (Sha.cq 22 kK.a);have z6 : (Sha.mb u.a 2 ^^^ Sha.mb u.a 13) ^^^ Sha.mb u.a 22 = Sha.MZ u.a 2 13 22:=rfl;rw [z6] at z5;refine ef T.mixed [(ow,WL)] [6,10,15] [43] [] (by kernel_rfl) (by simp only [aD,aG,and_true]; simp [AS.set,aF,jw]) ?_;intro K hK;simp only [↓bd,↓aS,cZ,cV,aL,aO,aD,aG,List.any_cons,List.any_nil,List.contains_cons,List.contains_nil,Nat.reduceBEq,Bool.or_false,Bool.or_true,Bool.or_self,Bool.false_or,↓DN,Qa,Qb,Qc,Qd,Qe,Qf,Qg,Qh,reduceCtorEq,↓reduceIte,Na,Nb,Nc,Nk,Nf,Ng,Nh,Za,Zb,Zc,TT,g13,c8,hq.h7,g14,g4,jw];refine ad (dG u.e 6 kK.e (by omega) (by omega) _) ?_;rintro r sa ⟨rfl,rfl⟩;simp only [↓bI,↓bp,bL,↓bd,↓aS,cZ,cV,aL,aO,aD,aG,List.any_cons,List.any_nil,DX,Nat.reduceBEq,↓DN,Qa,Qb,Qc,Qd,Qe,Qf,Qg,Qh,reduceCtorEq,↓reduceIte,Na,Nb,Nc,Nk,Nf,Ng,Nh,Za,Zb,Zc,TT,g13,c8,hq.h7,g14,g4,jw];refine ad (dG u.e 11 kK.e (by omega) (by omega) _) ?_;rintro r sb ⟨rfl,rfl⟩;simp only [↓bI,↓bp,bL,↓bd,↓aS,cZ,cV,aL,aO,aD,aG,List.any_cons,List.any_nil,DX,Nat.reduceBEq,↓DN,Qa,Qb,Qc,Qd,Qe,Qf,Qg,Qh,reduceCtorEq,↓reduceIte,Na,Nb,Nc,Nk,Nf,Ng,Nh,Za,Zb,Zc,TT,g13,c8,hq.h7,g14,g4,jw,z1];refine ad (dG u.e 25 kK.e (by omega) (by omega) _) ?_;rintro r sc ⟨rfl,rfl⟩;simp only [↓bI,↓bp,bL,↓bd,↓aS,cZ,cV,aL,aO,aD,aG,List.any_cons,List.any_nil,DX,Nat.reduceBEq,↓DN,Qa,Qb,Qc,Qd,Qe,Qf,Qg,Qh,reduceCtorEq,↓reduceIte,Na,Nb,Nc,Nk,Nf,Ng,Nh,Za,Zb,Zc,TT,g13,c8,hq.h7,g14,g4,jw,z1,z2,xdF,hwd,gM,Ns,tV,A4 u.e u.f kK.e kK.f,ZU u.e kK.e,A4 (4294967295 - u.e) u.g hn kK.g,oX (u.e &&& u.f) ((4294967295 - u.e) &&& u.g) (HV kK.e kK.f) (HV hn kK.g)];refine hK _ _ ?_;clear hK K;refine bB T.mixed [3,7,12] (by kernel_rfl) ?_;intro K hK;refine jN (Ai @g13 @c8) ?_;refine ad (dG u.a 2 kK.a (by omega) (by omega) _) ?_;rintro r sa ⟨rfl,rfl⟩;refine jN (Ai @g13 @c8) ?_;refine ad (dG u.a 13 kK.a (by omega) (by omega) _) ?_;rintro r sb ⟨rfl,rfl⟩;refine jN (Ai @g13 (Ai @c8 @z4)) ?_;refine ad (dG u.a 22 kK.a (by omega) (by omega) _) ?_;rintro r sc ⟨rfl,rfl⟩;refine jV (Ai @g13 (Ai @c8 (Ai @z4 (Ai @z5 (Ai @tV (Ai (A4 u.a u.b kK.a kK.b) (Ai (A4 u.a u.c kK.a kK.c) (Ai (A4 u.b u.c kK.b kK.c) (Ai (oX (u.a &&& u.b) (u.a &&& u.c) (HV kK.a kK.b) (HV kK.a kK.c)) (oX ((u.a &&& u.b) ^^^ (u.a &&& u.c)) (u.b &&& u.c) (ZX (HV kK.a kK.b) (HV kK.a kK.c)) (HV kK.b kK.c))))))))))) hK ?_;clear hK K;refine eK T.mixed [] (by kernel_rfl) ?_;intro K hK;refine jV (Ai @g13 (Ai @c8 (Ai @tV @xdA))) hK ?_;clear hK K;simp only [az,aw,if_true,if_false];refine kn _ _ ?_;clear kn K6;refine jD (Ai @g14 (cS t (by omega))) ?_;refine ⟨⟨t + 1,by omega,(by repeat (first | exact hk | exact hq | refine Kp.aF ?_ (by decide) | refine Kq.aF ?_ (by decide))),(by repeat (first | exact hk | exact hq | refine Kp.aF ?_ (by decide) | refine Kq.aF ?_ (by decide))),⟨.new,?_⟩,rfl,by rw [jw,hWL],jh,nv⟩,?_⟩
         ·repeat (first | refine Kr.aF ?_ (by decide))
          refine ⟨?_⟩;simp only [aF,↓reduceIte];rw [xdE];rfl
         ·simp only [g14,aF,↓reduceIte];omega
        ·have bS : ¬ (t : Int) < 64:=(by omega);obtain rfl : t = 64:=(by omega);refine jB (Ai @g14 (decide_eq_false bS)) ?_;refine jF ?_;refine aC ?_;simp only [az,aw,if_true];clear lU K5;refine ei _ _ ?_;clear ei K4;have hk : Kp oh m pl (.own tk e) i (aF (aF E7 120 (AV.v (.int .i64 ((64 : Nat) : Int)))) 121 (AV.v (.bool false))):=(by repeat (first | exact hk | exact hq | refine Kp.aF ?_ (by decide) | refine Kq.aF ?_ (by decide)));have hv : Kr (ew u) sp' (aF (aF E7 120 (AV.v (.int .i64 ((64 : Nat) : Int)))) 121 (AV.v (.bool false))):=(by repeat (first | exact hk | exact hq | exact hv | refine Kp.aF ?_ (by decide) | refine Kq.aF ?_ (by decide) | refine Kr.aF ?_ (by decide)));generalize (aF (aF E7 120 (AV.v (.int .i64 ((64 : Nat) : Int)))) 121 (AV.v (.bool false))) = E8 at *
         clear g14;rw [hu] at Qv;rw [← Ca st u] at jh;refine jA ?_;refine al ?_;refine aE (fun E s3=>∃ t : Nat,t≤8∧Kp oh m pl (.own tk e) i E∧Kr (ew u) sp' E∧E 17 = .v (.int .i64 t)∧s3.aq oh = some (zn st u t)∧s.le s3)
          (fun E _=>match E 17 with | .v (.int _ x)=>8 - x.toNat | _=>0) ?_ ?_
         ·exact ⟨0,by omega,(by repeat (first | exact hk | exact hq | refine Kp.aF ?_ (by decide) | refine Kq.aF ?_ (by decide))),(by repeat (first | exact hk | exact hq | exact hv | refine Kp.aF ?_ (by decide) | refine Kq.aF ?_ (by decide) | refine Kr.aF ?_ (by decide))),rfl,jh,nv⟩
         ·rintro E9 s7 ⟨t,ht,hk,hv,g17,jh,si⟩ -
          refine wK fun K5 lU=>?_;by_cases xG : t < 8
          ·have bS : (t : Int) < 8:=(by omega);refine jB (Ai @g17 (decide_eq_true bS)) ?_;refine jE ?_;refine ag ?_;refine lU _ _ ?_;clear lU K5;refine wK fun K6 kn=>?_;refine al ?_;have gM : (0 : Int)≤(t : Int):=(by omega);have d2:=Cc st u t xG;have d5:=zp u t xG;have cg:=FI st u t xG;have hlen:=FH st u t ht;generalize st.list.getD t 0 = x at *
           generalize u.list.getD t 0 = y at *
           have g13:=hv.MX;obtain ⟨X,hX⟩ : ∃ X,X = zn st u t:=⟨_,rfl⟩;rw [← hX] at d2 cg hlen jh;obtain ⟨Y,hY⟩ : ∃ Y,Y = ew u:=⟨_,rfl⟩;rw [← hY] at d5 g13;have d51 : List.take 1 (List.drop t Y) = [wV y]:=(by rw [d5]; rfl);refine cw T.mixed [(oh,X)] [] [5] [12] (by kernel_rfl) (by simp only [aD,aG,and_true]; simp [AS.set,aF,jh]) ?_;intro K hK;simp only [↓bd,↓aS,cZ,cV,aL,aO,aD,aG,List.any_cons,List.any_nil,List.contains_cons,List.contains_nil,Nat.reduceBEq,Bool.or_false,Bool.or_true,Bool.or_self,Bool.false_or,↓DN,Qa,Qb,Qc,Qd,Qe,Qf,Qg,Qh,reduceCtorEq,↓reduceIte,Na,Nb,Nc,Nk,Nf,Ng,Nh,Za,Zb,Zc,TT,hk.h3,g17,g13,c8,gM,bS,d2,d51,jh,tV,cg,hlen];refine ⟨by omega,hK _ _ ?_⟩;clear hK;simp only [az,aw,if_true,if_false];refine kn _ _ ?_;clear kn K6;refine jD (Ai @g17 (cS t (by omega))) ?_;refine ⟨⟨t + 1,by omega,(by repeat (first | exact hk | exact hq | refine Kp.aF ?_ (by decide) | refine Kq.aF ?_ (by decide))),(by repeat (first | exact hk | exact hq | exact hv | refine Kp.aF ?_ (by decide) | refine Kq.aF ?_ (by decide) | refine Kr.aF ?_ (by decide))),rfl,AS.aa _ _ _,AS.aB si hoh _⟩,?_⟩;simp only [g17,aF,↓reduceIte];omega
          ·have bS : ¬ (t : Int) < 8:=(by omega);obtain rfl : t = 8:=(by omega);refine jB (Ai @g17 (decide_eq_false bS)) ?_;refine jF ?_;refine aC ?_;simp only [az,aw,if_true,if_false];refine bC _ _ ?_;clear bC lU K3 K5;have h6:=hk.h6;have HO : eu .i64 ((64 * i : Nat) : Int) 64 = ((64 * (i + 1) : Nat) : Int):=gg (64 * i) 64 (by omega);refine jD (Ai @h6 @HO) ?_;rw [Cb,← Qv,← Ke] at jh;refine ⟨⟨i + 1,bc,⟨by simp only [aF,hk.h3,Nc,↓reduceIte],by simp only [aF,hk.h4,Nc,↓reduceIte],by simp only [aF,hk.h5,Nc,↓reduceIte],rfl⟩,jh,si⟩,?_⟩;simp only [aF,↓reduceIte,Int.toNat_natCast,ZZ];omega
  ·have bS : ¬ ((64 * i : Nat) : Int) < ((64 * m : Nat) : Int):=(by omega);obtain rfl : i = m:=(by omega);refine jB (Ai @e6 (Ai @hk.h5 (decide_eq_false bS))) ?_;refine jF ?_;refine aC ?_;simp only [az,aw,if_true];clear aW K2;refine hK _ _ ?_;clear hK K;have h3:=hk.h3;generalize Sha.hash pl i = u at *
   refine jA ?_;refine wK fun K hK=>?_;refine jA ?_;refine al ?_;refine aE (fun E s3=>∃ t : Nat,t≤8∧E 3 = .gw oh 0 1 8 8∧E 19 = .v (.int .i64 t)∧s3.aq oh = some (ew u)∧dX s2 (KD u t) (E 18) s3)
    (fun E _=>match E 19 with | .v (.int _ x)=>8 - x.toNat | _=>0) ?_ ?_
   ·exact ⟨0,by omega,h3,rfl,ho,AS.le.refl s2,.inl ⟨rfl,rfl⟩⟩
   ·rintro E3 s3 ⟨t,ht,g3,g19,jh,zu⟩ -
    refine wK fun K5 lU=>?_;by_cases xG : t < 8
    ·have bS : (t : Int) < 8:=(by omega);have gM : (0 : Int)≤(t : Int):=(by omega);refine jB (Ai @g19 (decide_eq_true bS)) ?_;refine jE ?_;refine ag ?_;refine lU _ _ ?_;clear lU K5;refine wK fun K6 kn=>?_;refine al ?_;have d5:=zp u t xG;have tX:=Cg u t xG;have Qz:=FN u t ht;generalize u.list.getD t 0 = x at *
     have Mb : fa .u32 (x : Int) 24 = ((x / 2 ^ 24 : Nat) : Int):=vm x 24 (by decide);have Lj : fa .u32 (x : Int) 16 = ((x / 2 ^ 16 : Nat) : Int):=vm x 16 (by decide);have s8 : fa .u32 (x : Int) 8 = ((x / 2 ^ 8 : Nat) : Int):=vm x 8 (by decide);generalize tY : E3 18 = r6 at zu;obtain ⟨X,hX⟩ : ∃ X,X = ew u:=⟨_,rfl⟩;rw [← hX] at d5 jh;refine cw T.mixed [(oh,X)] [25] [4,10,16,22] [] (by kernel_rfl) (by simp only [aD,aG,and_true]; simp [AS.set,aF,jh]) ?_;intro K hK;simp only [↓bd,↓aS,cZ,cV,aL,aO,aD,aG,List.any_cons,List.any_nil,List.contains_cons,List.contains_nil,Nat.reduceBEq,Bool.or_false,Bool.or_true,Bool.or_self,Bool.false_or,↓DN,Qa,Qb,Qc,Qd,Qe,Qf,Qg,Qh,reduceCtorEq,↓reduceIte,Na,Nb,Nc,Nk,Nf,Ng,Nh,Za,Zb,Zc,TT,g3,g19,c8,gM,bS,d5,jh,Mb,Lj,s8,Z1,tY];refine dm (ds:=Sha.be x) zu rfl (by simp only [Sha.be,List.map_cons,List.map_nil,xA]) T.c5 T.b5 (by rw [Qz]; simp only [Sha.be,List.length_cons,List.length_nil]; omega) ?_;intro r2 s6 h6;rw [tX] at h6;refine ⟨by rw [hX]; exact h6.1.aq _ _ ho,hK _ _ ?_⟩;clear hK;simp only [az,aw,if_true,if_false];refine kn _ _ ?_;clear kn K6;refine jD (Ai @g19 (cS t (by omega))) ?_;refine ⟨⟨t + 1,by omega,g3,rfl,h6.1.aq _ _ ho,by simpa only [aF,Nc,↓reduceIte] using h6⟩,?_⟩;simp only [g19,aF,↓reduceIte];omega
    ·have bS : ¬ (t : Int) < 8:=(by omega);obtain rfl : t = 8:=(by omega);refine jB (Ai @g19 (decide_eq_false bS)) ?_;refine jF ?_;refine aC ?_;simp only [az,aw,if_true];clear lU K5;refine hK _ _ ?_;clear hK K;rw [Ch,PB] at zu;obtain ⟨tz,ez,VW⟩:=ct zu (by rw [← List.length_pos_iff,Sha.dQ]; decide);refine jB @VW ?_;refine jI ?_;exact ⟨_,s,AV.aA.refl _,AS.le.trans hle zu.1,rfl,rfl⟩
theorem PM : af prog 235 = true:=by kernel_rfl
theorem PN : af prog 237 = true:=by kernel_rfl
theorem PO : af prog 163 = true:=by kernel_rfl
theorem eS (k : Nat) (n : Int) (st : List UInt8 × Bool) : (bf k n st).1.length≤st.1.length + k:=by
 unfold bf dN;split
 ·split
  ·omega
  ·simp
 ·simp only; omega
theorem A8 (number : Int) (hn : -9223372036854775808≤number∧number≤9223372036854775807) (N : ao) (hl : N.kY.length≤2 ^ 61) (s0 s : AS) (p : Nat) (st : List UInt8 × Bool) (ir : st.1.length≤100) (h : eR s0 s p st) :
  ah prog Γ 235 [.ptr p 0,.dq [.v (.int .i64 number)],.dq N.cells] s (fun r s'=>r = .eJ []∧eR s0 s' p (dD N (bf 4 number st))):=by
 refine ab func235 rfl ntmps235 results235 (by simp) ?_;have hw:=oK (Γ:=Γ) N hl;unfold ao.cells at *
 refine jQ fun K hK=>?_;refine ad (tN s0 s p st number hn (by omega) h) ?_;rintro r s1 ⟨rfl,h1⟩;refine jR hK ?_;clear hK K;have hl4:=eS 4 number st;refine jU @aR.eq_1 fun K hK=>?_;refine ad (hw s0 s1 p _ (by omega) h1) ?_;rintro r s2 ⟨rfl,h2⟩;refine jR hK ?_;clear hK K;simp only [cn,bz,bD,dy,List.toList_toArray,↓a8]; try simp only [UP,DF,Nc,↓reduceIte,DT]
 exact jW ⟨rfl,h2⟩
theorem xf (N : ao) (hl : N.kY.length≤2 ^ 61) (s0 s : AS) (p : Nat) (st : List UInt8 × Bool) (ir : st.1.length≤100) (h : eR s0 s p st) :
  ah prog Γ 237 [.ptr p 0,.dq N.cells] s (fun r s'=>r = .eJ []∧eR s0 s' p (dD N st)):=by
 refine ab func237 rfl ntmps237 results237 (by simp) ?_;have hw:=oK (Γ:=Γ) N hl;unfold ao.cells at *
 refine jU @aR.eq_1 fun K hK=>?_;refine ad (hw s0 s p _ (by omega) h) ?_;rintro r s2 ⟨rfl,h2⟩;refine jR hK ?_;clear hK K;simp only [cn,bz,bD,dy,List.toList_toArray,↓a8]; try simp only [UP,DF,Nc,↓reduceIte,DT]
 exact jW ⟨rfl,h2⟩
theorem xg (N : ao) (hk : N.key < 2 ^ 64) (hp : N.parent.length≤100) (s0 s : AS) (p : Nat) (st : List UInt8 × Bool) (ir : st.1.length≤100) (h : eR s0 s p st) :
  ah prog Γ 163 [.ptr p 0,.dq N.cells] s (fun r s'=>r = .eJ []∧eR s0 s' p (dj 1 N.parent (dN 8 N.key st))):=by
 refine ab func163 rfl ntmps163 results163 (by simp) ?_;have Gw : (dN 8 N.key st).1.length≤st.1.length + 8:=(by unfold dN; split; omega; simp);obtain ⟨k,m,y,pa,u⟩:=N;simp only at hk hp Gw;unfold ao.cells at *
 refine jQ fun K hK=>?_;refine ad (eX s0 s p st y hk (by omega) h) ?_;rintro r s1 ⟨rfl,h1⟩;refine jR hK ?_;clear hK K;refine jU @aR.eq_1 fun K hK=>?_;refine ad (eH s0 s1 p _ (aj pa .any) pa (.inr ⟨_,rfl⟩) (by omega) h1) ?_;rintro r s2 ⟨rfl,h2⟩;refine jR hK ?_;clear hK K;simp only [cn,bz,bD,dy,List.toList_toArray,↓a8]; try simp only [UP,DF,Nc,↓reduceIte,DT]
 exact jW ⟨rfl,h2⟩
theorem lQ (mark : Nat) (hm : mark < 256) (k : FuncId) (cd : List AV) (hk : af prog k = true) (F : List UInt8 × Bool)
  (hF : ∀ s0 s p,eR s0 s p ([UInt8.ofNat mark],false)→ah prog Γ k (.ptr p 0 :: cd) s (fun r s'=>r = .eJ []∧eR s0 s' p F)) (hl : F.1.length≤2 ^ 45) (s : AS) :
  ah prog Γ 162 [.v (.int .i64 (mark : Int)),.qK k cd] s (fun r s'=>r = .eJ [aj (if F.2 = true then [] else F.1) .any,.v (.bool !F.2)]∧s' = s):=by
 refine ab func162 rfl ntmps162 results162 (by simp) ?_;have h0 : bf 1 (mark : Int) ([],false) = ([UInt8.ofNat mark],false):=by
  unfold bf;rw [if_pos ⟨by omega,by omega⟩];simp [dN,be]
 refine jA ?_;refine jQ fun K hK=>?_;refine ad (nr s) ?_;rintro r s1 ⟨p,rfl,q1⟩;refine jR hK ?_;clear hK K;refine jQ fun K hK=>?_;refine ad (eh s s1 p ([],false) (mark : Int) (by omega) (by simp) q1) ?_;rintro r s2 ⟨rfl,q2⟩;rw [h0] at q2;refine jR hK ?_;clear hK K;refine wS fun K hK=>?_;simp only [↓DN,Qa,Qb,Qc,Qd,Qe,Qf,Qg,Qh,reduceCtorEq,↓reduceIte,Na,Nb,Nc,Nk,Nf,Ng,Nh,Za,Zb,Zc,TT,hk];refine ad (hF s s2 p q2) ?_;rintro r s3 ⟨rfl,q3⟩;refine jR hK ?_;clear hK K;refine jK (fO s s3 p _ hl q3) ?_;rintro s4 rfl;refine jI ?_;exact ⟨_,s,AV.aA.refl _,q3.le,rfl,rfl⟩
end Go.Proofs.YtbiefppedlodiaaGreatDoor
