/- Contracts of the program's functions, each walked once; the conditions stand in each theorem. -/
import Derived.Test.YtfjlmkifiihgkaaGreatDoorAMp6
import Derived.Test.YtfjlmkifiihgkaaGreatDoorW1
import Derived.Test.YtfjlmkifiihgkaaGreatDoorW6
set_option linter.unusedSimpArgs false
set_option linter.unusedVariables false
open Nat renaming reduceLT → Na, reduceLeDiff → Nb, reduceEqDiff → Nc, reduceAdd → Nk, reduceMul → Nf, reducePow → Ng, reduceSub → Nh, reduceBEq → Nz
open Int renaming reduceLT → Za, reduceLE → Zb, reduceToNat → Zc
open And renaming intro → Ai
open Go.AM renaming ashift → Qa, aconv → Qb, aindexAddr → Qc, aindex → Qd, aslice → Qe, abuiltin → Qf, awp_reg_seq → wS, awp_reg_end → wE, awp_seq_k → wK, awp_cond_k → wC
open Go.AM.AV renaming cells → Qg, one → Qh
set_option maxRecDepth 100000
set_option maxHeartbeats 8000000
set_option autoImplicit false
namespace Go.Proofs.YtfjlmkifiihgkaaGreatDoor
open Go Go.AM Go.Proofs
variable {Γ : Nat→List AV}
def row (c : List UInt8) (i : Nat) : List AV:=(Sha.sch c i).map wV ++ List.replicate (64 - i) (wV 0)
theorem row_zero (c : List UInt8) : row c 0 = List.replicate 64 (wV 0):=rfl
theorem row_full (c : List UInt8) : row c 64 = (Sha.sch c 64).map wV:=by simp [row]
theorem row_len (c : List UInt8) (i : Nat) (h : i≤64) : (row c i).length = 64:=by
 simp [row,Sha.sch_length]; omega
theorem drop_cons {α : Type} (l : List α) (j : Nat) (x : α) (h : l[j]? = some x) : List.drop j l = x :: List.drop (j + 1) l:=by
 obtain ⟨h1,h2⟩:=List.getElem?_eq_some_iff.1 h
 rw [List.drop_eq_getElem_cons h1,h2]
theorem row_drop (c : List UInt8) (i j : Nat) (h : j < i) : List.drop j (row c i) = wV ((Sha.sch c i).getD j 0) :: List.drop (j + 1) (row c i):=by
 apply drop_cons
 have hl : j < (Sha.sch c i).length:=by rw [Sha.sch_length]; exact h
 rw [row,List.getElem?_append_left (by simpa using hl),List.getElem?_map,List.getElem?_eq_getElem hl]
 simp [List.getD,List.getElem?_eq_getElem hl]
def rowP (c : List UInt8) (i v : Nat) : List AV:=(row c i).set i (wV v)
theorem rowP_zero (c : List UInt8) (i : Nat) (h : i < 64) : rowP c i 0 = row c i:=by
 unfold rowP
 apply List.ext_getElem?
 intro k
 by_cases e : k = i
 ·subst e
  rw [List.getElem?_set_self (by rw [row_len c k (by omega)]; exact h),row,List.getElem?_append_right (by simp [Sha.sch_length])]
  simp [Sha.sch_length,List.getElem?_replicate]
  omega
 ·rw [List.getElem?_set_ne (by omega)]
theorem rowP_drop (c : List UInt8) (i v : Nat) (h : i < 64) : List.drop i (rowP c i v) = wV v :: List.drop (i + 1) (rowP c i v):=by
 apply drop_cons
 rw [rowP,List.getElem?_set_self (by rw [row_len c i (by omega)]; exact h)]
theorem rowP_set (c : List UInt8) (i v u : Nat) : (rowP c i v).set i (wV u) = rowP c i u:=by simp [rowP]
theorem rowP_len (c : List UInt8) (i v : Nat) (h : i≤64) : (rowP c i v).length = 64:=by simp [rowP,row_len c i h]
theorem row_set (c : List UInt8) (i : Nat) (h : i < 64) : (row c i).set i (wV (Sha.word c (Sha.sch c i) i)) = row c (i + 1):=by
 apply List.ext_getElem?
 intro k
 by_cases e : k = i
 ·subst e
  rw [List.getElem?_set_self (by rw [row_len c k (by omega)]; exact h),row,List.getElem?_append_left (by simp [Sha.sch_length])]
  simp [Sha.sch,Sha.sch_length,List.getElem?_append_right]
 ·rw [List.getElem?_set_ne (by omega),row,row]
  by_cases hk : k < i
  ·rw [List.getElem?_append_left (by simp [Sha.sch_length]; omega),List.getElem?_append_left (by simp [Sha.sch_length]; omega)]
   simp [Sha.sch,List.getElem?_append_left,Sha.sch_length,hk]
  ·rw [List.getElem?_append_right (by simp [Sha.sch_length]; omega),List.getElem?_append_right (by simp [Sha.sch_length]; omega)]
   simp only [List.length_map,Sha.sch_length,List.getElem?_replicate]
   by_cases h2 : k < 64
   ·rw [if_pos (by omega),if_pos (by omega)]
   ·rw [if_neg (by omega),if_neg (by omega)]
def partW (c : List UInt8) (i k : Nat) : Nat:=((c.drop (4 * i)).take k).foldl (fun x b=>x * 256 + b.toNat) 0
theorem partW_zero (c : List UInt8) (i : Nat) : partW c i 0 = 0:=rfl
theorem partW_succ (c : List UInt8) (i k : Nat) (b : UInt8) (h : c[4 * i + k]? = some b) : partW c i (k + 1) = partW c i k * 256 + b.toNat:=by
 unfold partW
 have : (c.drop (4 * i))[k]? = some b:=by rw [List.getElem?_drop]; exact h
 obtain ⟨h1,h2⟩:=List.getElem?_eq_some_iff.1 this
 rw [List.take_succ_eq_append_getElem h1,List.foldl_append,h2]
 rfl
theorem partW_lt (c : List UInt8) (i k : Nat) (hk : k≤3) : partW c i k < 16777216:=by
 have key : ∀ (l : List UInt8) (x : Nat),l.foldl (fun x b=>x * 256 + b.toNat) x < (x + 1) * 256 ^ l.length:=by
  intro l
  induction l with
  | nil=>intro x; simp
  | cons b l ih =>
   intro x
   rw [List.foldl_cons]
   have h1:=ih (x * 256 + b.toNat)
   have hb:=b.toNat_lt
   have h2 : (x * 256 + b.toNat + 1) * 256 ^ l.length≤((x + 1) * 256) * 256 ^ l.length:=Nat.mul_le_mul_right _ (by omega)
   rw [List.length_cons,Nat.pow_succ,Nat.mul_comm (256 ^ l.length),← Nat.mul_assoc]
   omega
 have h:=key ((c.drop (4 * i)).take k) 0
 have hl : ((c.drop (4 * i)).take k).length≤3:=by simp; omega
 have : 256 ^ ((c.drop (4 * i)).take k).length≤256 ^ 3:=Nat.pow_le_pow_right (by decide) hl
 unfold partW
 omega
theorem partW_word (c : List UInt8) (p : List Nat) (i : Nat) (hi : i < 16) (hc : c.length = 64) : partW c i 4 = Sha.word c p i:=by
 have g : ∀ j,j < 4→c[4 * i + j]? = some (c.getD (4 * i + j) 0):=fun j hj=>by
  rw [List.getD_eq_getElem?_getD,List.getElem?_eq_getElem (by omega)]
  rfl
 rw [partW_succ c i 3 _ (g 3 (by omega)),partW_succ c i 2 _ (g 2 (by omega)),partW_succ c i 1 _ (g 1 (by omega)),partW_succ c i 0 _ (g 0 (by omega)),partW_zero]
 unfold Sha.word
 rw [if_pos hi]
 simp only [Sha.be32,Nat.add_zero,Nat.zero_mul,Nat.zero_add]
theorem w_shl8 (x : Nat) (b : UInt8) (h : x < 16777216) : ior .u32 (ishl .u32 (x : Int) 8) (iconv .u32 (b.toNat : Int)) = ((x * 256 + b.toNat : Nat) : Int):=by
 have hb:=b.toNat_lt
 rw [show (8 : Int) = ((8 : Nat) : Int) from rfl,wshl x 8 (by decide),iconv_u rfl]
 have e1 : x * 2 ^ 8 % 4294967296 = x * 256:=by omega
 have e2 : b.toNat % 2 ^ IntKind.u32.bits = b.toNat:=by simp only [IntKind.bits]; omega
 rw [e1,e2,wor _ _ (by omega) (by omega)]
 have:=Nat.shiftLeft_add_eq_or_of_lt (b:=b.toNat) (i:=8) (by omega) x
 rw [Nat.shiftLeft_eq] at this
 rw [show x * 256 = x * 2 ^ 8 from rfl,← this]
theorem asetAll_at : ∀ (xs cs : List AV) (off : Nat),off + xs.length≤cs.length→asetAll cs off xs = cs.take off ++ xs ++ cs.drop (off + xs.length)
 | [],cs,off,_=>by simp [asetAll]
 | x :: xs,cs,off,h=>by
  simp only [List.length_cons] at h
  rw [asetAll,asetAll_at xs _ _ (by simp; omega)]
  have e1 : List.take (off + 1) (cs.set off x) = List.take off cs ++ [x]:=by
   rw [List.take_succ_eq_append_getElem (by simp; omega)]
   simp [List.take_set_of_le]
  have e2 : List.drop (off + 1 + xs.length) (cs.set off x) = List.drop (off + (xs.length + 1)) cs:=by
   rw [List.drop_set_of_lt (by omega),show off + 1 + xs.length = off + (xs.length + 1) from by omega]
  rw [e1,e2]
  simp
theorem asetAll_whole (cs xs : List AV) (h : cs.length = xs.length) : asetAll cs 0 xs = xs:=by
 rw [asetAll_at xs cs 0 (by omega)]
 simp [← h]
theorem z138 : zcells Tryz.prog 265 = some (List.replicate 64 (wV 0)):=by kernel_rfl
theorem all_wV (l : List Nat) : (l.map wV).all AV.one = true:=by
 rw [List.all_eq_true]
 intro x hx
 obtain ⟨n,_,rfl⟩:=List.mem_map.1 hx
 rfl
theorem q64 : iquo .i64 ((64 : Nat) : Int) 4 = 16:=by decide
theorem w_succ (i : Nat) (h : i < 2 ^ 62) : iadd .i64 (i : Int) 1 = ((i + 1 : Nat) : Int):=by
 rw [iadd_i64 (by omega)]
 rfl
theorem i64_mul4 (i : Nat) (h : i < 64) : imul .i64 4 (i : Int) = ((4 * i : Nat) : Int):=by
 rw [imul_i64 (by omega)]
 omega
theorem i64_add (a b : Nat) (h : a + b < 9223372036854775808) : iadd .i64 (a : Int) (b : Int) = ((a + b : Nat) : Int):=by
 rw [iadd_i64 (by omega)]
 omega
theorem i64_add4 (a : Nat) (h : a < 2 ^ 62) : iadd .i64 (a : Int) 4 = ((a + 4 : Nat) : Int):=i64_add a 4 (by omega)
theorem i64_sub (a b : Nat) (hb : b≤a) (h : a < 9223372036854775808) : isub .i64 (a : Int) (b : Int) = ((a - b : Nat) : Int):=by
 rw [isub_i64 (by omega)]
 omega
theorem spread_calls (c : List UInt8) (hc : c.length = 64) (s : AS) :
  ACalls Tryz.prog Γ 233 [bytesV c .any] s (fun r s'=>r = .agg ((Sha.sch c 64).map wV)∧s' = s):=by
 refine acalls_body Tryz.func233 rfl Tryz.ntmps233 Tryz.results233 (by simp) ?_
 refine jS @z138 fun K hK=>?_
 intro o2 ho2
 refine hK _ _ ?_;clear hK K
 refine jS @z138 fun K hK=>?_
 intro o3 ho3
 refine hK _ _ ?_;clear hK K
 obtain ⟨h32,ho3'⟩:=AS.fresh_set ho3
 clear ho3
 rw [← row_zero c]
 refine wK fun K hK=>?_
 refine jA ?_
 refine awp_block ?_
 have hcl : (bytesV c .any : AV) = .sl 1 64 (c.map byteV) .any:=by rw [bytesV,hc]
 refine awp_loop (fun E s1=>∃ i : Nat,i≤64∧E 0 = .sl 1 64 (c.map byteV) .any∧E 2 = .ptr o2 0∧E 3 = .ptr o3 0∧E 7 = .v (.int .i64 i)∧s1 = (s.set o2 (row c 0)).set o3 (row c i))
  (fun E _=>match E 7 with | .v (.int _ i)=>64 - i.toNat | _=>0) ?_ ?_
 ·exact ⟨0,by omega,by simp [upd,initE,hc],by simp [upd],by simp [upd],by simp [upd],rfl⟩
 ·rintro E1 s1 ⟨i,hi,e0,e2,e3,e7,rfl⟩ -
  by_cases hi' : i < 64
  ·have hi2 : (i : Int) < 64:=by omega
   have hi3 : (i : Int) < ((64 : Nat) : Int):=by omega
   refine jB (Ai @e7 (decide_eq_true hi2)) ?_
   refine wK fun K2 hK2=>?_
   refine jE ?_
   refine awp_skip ?_
   refine hK2 _ _ ?_;clear hK2 K2
   refine wK fun K3 hK3=>?_
   refine awp_block ?_
   refine jB @e7 ?_
   have hnext : ∀ E4 : Env,E4 0 = .sl 1 64 (c.map byteV) .any→E4 2 = .ptr o2 0→E4 3 = .ptr o3 0→E4 7 = .v (.int .i64 i)→K3 E4 ((s.set o2 (row c 0)).set o3 (row c (i + 1))):=by
    intro E4 f0 f2 f3 f7
    refine hK3 _ _ ?_;clear hK3 K3
    refine jD (Ai @f7 (w_succ i (by omega))) ?_
    refine ⟨⟨i + 1,by omega,by simp only [upd,f0,Nc,↓reduceIte],by simp only [upd,f2,Nc,↓reduceIte],by simp only [upd,f3,Nc,↓reduceIte],by simp only [upd,↓reduceIte],rfl⟩,?_⟩
    simp only [e7,upd,↓reduceIte]
    omega
   clear hK3
   refine wK fun K4 hK4=>?_
   by_cases h16 : i < 16
   ·have hlt16 : (i : Int) < 16:=by omega
    refine jB (Ai @e0 (Ai @e7 @q64)) ?_
    refine wC fun X Y hX hY=>?_
    simp only [UP,DF,Nc,↓reduceIte,DB]
    refine ⟨fun _=>hX ?_,fun h=>absurd hlt16 h⟩
    clear hX hY X Y
    have hlo : (0 : Int)≤((4 * i : Nat) : Int):=by omega
    have hlh : ((4 * i : Nat) : Int)≤((4 * i + 4 : Nat) : Int):=by omega
    have hh64 : ((4 * i + 4 : Nat) : Int)≤((64 : Nat) : Int):=by omega
    refine wK fun K5 hK5=>?_
    refine jB (Ai @e0 (Ai @e7 (Ai (i64_mul4 i hi') (Ai (i64_add4 (4 * i) (by omega)) (Ai @hlo (Ai @hlh (Ai @hh64 @Nat.add_sub_cancel_left))))))) ?_
    refine awp_block ?_
    obtain ⟨Xs,hXs⟩ : ∃ Xs,Xs = List.map byteV (List.drop (4 * i) (List.take (4 * i + 4) c)):=⟨_,rfl⟩
    have hXk : ∀ k,k < 4→List.take 1 (List.drop k Xs) = [byteV (c.getD (4 * i + k) 0)]:=by
     intro k hk
     have : Xs[k]? = some (byteV (c.getD (4 * i + k) 0)):=by
      rw [hXs,List.getElem?_map,List.getElem?_drop,List.getElem?_take,if_pos (by omega),List.getElem?_eq_getElem (by omega)]
      simp only [Option.map_some,List.getD,List.getElem?_eq_getElem (show 4 * i + k < c.length by omega),Option.getD_some]
     rw [drop_cons _ _ _ this]
     rfl
    rw [← hXs]
    refine awp_loop (fun E s2=>∃ k : Nat,k≤4∧E 0 = .sl 1 64 (c.map byteV) .any∧E 2 = .ptr o2 0∧E 3 = .ptr o3 0∧E 7 = .v (.int .i64 i)∧E 4 = .v (.int .i64 i)∧E 21 = .sl 1 4 Xs .any∧E 22 = .v (.int .i64 4)∧E 23 = .v (.int .i64 k)∧s2 = (s.set o2 (row c 0)).set o3 (rowP c i (partW c i k)))
     (fun E _=>match E 23 with | .v (.int _ k)=>4 - k.toNat | _=>0) ?_ ?_
    ·refine ⟨0,by omega,by simp only [upd,e0,Nc,↓reduceIte],by simp only [upd,e2,Nc,↓reduceIte],by simp only [upd,e3,Nc,↓reduceIte],by simp only [upd,e7,Nc,↓reduceIte],by simp only [upd,Nc,↓reduceIte],by simp only [upd,Nc,↓reduceIte],by simp only [upd,Nc,↓reduceIte]; rfl,by simp only [upd,↓reduceIte]; rfl,by rw [partW_zero,rowP_zero c i hi']⟩
    ·rintro E2 s2 ⟨k,hk,g0,g2,g3,g7,g4,g21,g22,g23,rfl⟩ -
     by_cases hk' : k < 4
     ·have hk2 : (k : Int) < 4:=by omega
      have hk0 : (0 : Int)≤(k : Int):=by omega
      have hk3 : (k : Int) < ((4 : Nat) : Int):=by omega
      have hi0 : (0 : Int)≤(i : Int):=by omega
      refine jB (Ai @g23 (Ai @g22 (decide_eq_true hk2))) ?_
      refine wK fun K6 hK6=>?_
      refine jE ?_
      refine awp_skip ?_
      refine hK6 _ _ ?_;clear hK6 K6
      refine wK fun K7 hK7=>?_
      refine awp_block ?_
      obtain ⟨b,hb⟩ : ∃ b,b = c.getD (4 * i + k) 0:=⟨_,rfl⟩
      have hbk : c[4 * i + k]? = some b:=by
       rw [hb,List.getD_eq_getElem?_getD,List.getElem?_eq_getElem (by omega)]
       rfl
      have hXk':=hXk k hk'
      rw [← hb] at hXk'
      refine jB (Ai @g21 (Ai @g23 (Ai @hk0 (Ai @hk2 (Ai @hk3 @hXk'))))) ?_
      obtain ⟨v,hv⟩ : ∃ v,v = partW c i k:=⟨_,rfl⟩
      have hv3 : v < 16777216:=by rw [hv]; exact partW_lt c i k (by omega)
      rw [← hv]
      have hd:=rowP_drop c i v hi'
      have hset : (rowP c i v).set i (wV (v * 256 + b.toNat)) = rowP c i (partW c i (k + 1)):=by rw [rowP_set,partW_succ c i k b hbk,hv]
      have hlen:=rowP_len c i v hi
      obtain ⟨R,hR⟩ : ∃ R,R = rowP c i v:=⟨_,rfl⟩
      rw [← hR] at hd hset hlen ⊢
      refine wE fun K hK=>?_
      simp only [↓DN,Qa,Qb,Qc,Qd,Qe,Qf,Qg,Qh,reduceCtorEq,↓reduceIte,Na,Nb,Nc,Nk,Nf,Ng,Nh,Za,Zb,Zc,TT,g3,g4,hi0,hi2,hi3,hd,byteV,w_shl8 v b hv3,hset,hlen,hi']
      refine ⟨by omega,hK _ _ ?_⟩
      clear hK K
      simp only [blockQ,thenQ,if_true,if_false]
      refine hK7 _ _ ?_;clear hK7 K7
      refine jD (Ai @g23 (w_succ k (by omega))) ?_
      refine ⟨⟨k + 1,by omega,by simp only [upd,g0,Nc,↓reduceIte],by simp only [upd,g2,Nc,↓reduceIte],by simp only [upd,g3,Nc,↓reduceIte],by simp only [upd,g7,Nc,↓reduceIte],by simp only [upd,g4,Nc,↓reduceIte],by simp only [upd,g21,Nc,↓reduceIte],by simp only [upd,g22,Nc,↓reduceIte],by simp only [upd,↓reduceIte],rfl⟩,?_⟩
      simp only [g23,upd,↓reduceIte]
      omega
     ·have hk2 : ¬ (k : Int) < 4:=by omega
      obtain rfl : k = 4:=by omega
      refine jB (Ai @g23 (Ai @g22 (decide_eq_false hk2))) ?_
      refine wK fun K6 hK6=>?_
      refine jF ?_
      refine awp_exit ?_
      simp only [thenQ,blockQ,if_true]
      clear hK6 K6
      refine hK5 _ _ ?_;clear hK5 K5
      refine awp_exit ?_
      simp only [thenQ,blockQ,if_true]
      rw [partW_word c (Sha.sch c i) i h16 hc]
      have : rowP c i (Sha.word c (Sha.sch c i) i) = row c (i + 1):=row_set c i hi'
      rw [this]
      exact hnext _ (by simp only [upd,g0,Nc,↓reduceIte]) (by simp only [upd,g2,Nc,↓reduceIte]) (by simp only [upd,g3,Nc,↓reduceIte]) (by simp only [upd,g7,Nc,↓reduceIte])
   ·have hlt16 : ¬ (i : Int) < 16:=by omega
    have hi0 : (0 : Int)≤(i : Int):=by omega
    refine jB (Ai @e0 (Ai @e7 @q64)) ?_
    refine wC fun X Y hX hY=>?_
    simp only [UP,DF,Nc,↓reduceIte,DB]
    refine ⟨fun h=>absurd h hlt16,fun _=>hY ?_⟩
    clear hX hY X Y
    refine awp_skip ?_
    refine hK4 _ _ ?_;clear hK4 K4
    have n2 : (0 : Int)≤((i - 2 : Nat) : Int):=by omega
    have n7 : (0 : Int)≤((i - 7 : Nat) : Int):=by omega
    have n15 : (0 : Int)≤((i - 15 : Nat) : Int):=by omega
    have n16 : (0 : Int)≤((i - 16 : Nat) : Int):=by omega
    have m2 : ((i - 2 : Nat) : Int) < ((64 : Nat) : Int):=by omega
    have m7 : ((i - 7 : Nat) : Int) < ((64 : Nat) : Int):=by omega
    have m15 : ((i - 15 : Nat) : Int) < ((64 : Nat) : Int):=by omega
    have m16 : ((i - 16 : Nat) : Int) < ((64 : Nat) : Int):=by omega
    have s2 : isub .i64 (i : Int) 2 = ((i - 2 : Nat) : Int):=i64_sub i 2 (by omega) (by omega)
    have s7 : isub .i64 (i : Int) 7 = ((i - 7 : Nat) : Int):=i64_sub i 7 (by omega) (by omega)
    have s15 : isub .i64 (i : Int) 15 = ((i - 15 : Nat) : Int):=i64_sub i 15 (by omega) (by omega)
    have s16 : isub .i64 (i : Int) 16 = ((i - 16 : Nat) : Int):=i64_sub i 16 (by omega) (by omega)
    have d2:=row_drop c i (i - 2) (by omega)
    have d7:=row_drop c i (i - 7) (by omega)
    have d15:=row_drop c i (i - 15) (by omega)
    have d16:=row_drop c i (i - 16) (by omega)
    have hw : Sha.word c (Sha.sch c i) i = Sha.add32 (Sha.add32 (Sha.add32 (Sha.sig2 ((Sha.sch c i).getD (i - 2) 0) 17 19 10) ((Sha.sch c i).getD (i - 7) 0)) (Sha.sig2 ((Sha.sch c i).getD (i - 15) 0) 7 18 3)) ((Sha.sch c i).getD (i - 16) 0):=by rw [Sha.word,if_neg h16]
    have hset:=row_set c i hi'
    rw [hw] at hset
    have hlen:=row_len c i hi
    have l2:=Sha.sch_getD_lt c i (i - 2)
    have l15:=Sha.sch_getD_lt c i (i - 15)
    generalize (Sha.sch c i).getD (i - 2) 0 = x2 at *
    generalize (Sha.sch c i).getD (i - 7) 0 = x7 at *
    generalize (Sha.sch c i).getD (i - 15) 0 = x15 at *
    generalize (Sha.sch c i).getD (i - 16) 0 = x16 at *
    obtain ⟨R,hR⟩ : ∃ R,R = row c i:=⟨_,rfl⟩
    rw [← hR] at d2 d7 d15 d16 hset hlen ⊢
    refine awp_mrk_end T.mixed [(o3,R)] [5,15] [4,9,14,20] [23] (by kernel_rfl) (by simp only [Pres_cons,Pres_nil,and_true]; simp [AS.set,upd]) ?_
    intro K hK
    simp only [↓AXr_nil,↓AXr_cons,gval,lval,fzGet_cons,fzGet_nil,Pres_cons,Pres_nil,List.any_cons,List.any_nil,List.contains_cons,List.contains_nil,Nat.reduceBEq,Bool.or_false,Bool.or_true,Bool.or_self,Bool.false_or,↓DN,Qa,Qb,Qc,Qd,Qe,Qf,Qg,Qh,reduceCtorEq,↓reduceIte,Na,Nb,Nc,Nk,Nf,Ng,Nh,Za,Zb,Zc,TT,e3,e7,hi0,hi3,n2,n7,n15,n16,m2,m7,m15,m16,s2,s7,s15,s16,d2,d7,d15,d16,h32]
    refine acallk (shifted_calls x2 17 19 10 l2 (by omega) (by omega) (by omega) (by omega) (by omega) (by omega) _) ?_
    rintro r sa ⟨rfl,rfl⟩
    simp only [↓AXq_nil,↓AXq_cons,pval,↓AXr_nil,↓AXr_cons,gval,lval,fzGet_cons,fzGet_nil,Pres_cons,Pres_nil,List.any_cons,List.any_nil,DX,Nat.reduceBEq,↓DN,Qa,Qb,Qc,Qd,Qe,Qf,Qg,Qh,reduceCtorEq,↓reduceIte,Na,Nb,Nc,Nk,Nf,Ng,Nh,Za,Zb,Zc,TT,e3,e7,hi0,hi3,n2,n7,n15,n16,m2,m7,m15,m16,s2,s7,s15,s16,d2,d7,d15,d16,h32,wadd]
    refine acallk (shifted_calls x15 7 18 3 l15 (by omega) (by omega) (by omega) (by omega) (by omega) (by omega) _) ?_
    rintro r sb ⟨rfl,rfl⟩
    simp only [↓AXq_nil,↓AXq_cons,pval,↓AXr_nil,↓AXr_cons,gval,lval,fzGet_cons,fzGet_nil,Pres_cons,Pres_nil,List.any_cons,List.any_nil,DX,Nat.reduceBEq,↓DN,Qa,Qb,Qc,Qd,Qe,Qf,Qg,Qh,reduceCtorEq,↓reduceIte,Na,Nb,Nc,Nk,Nf,Ng,Nh,Za,Zb,Zc,TT,e3,e7,hi0,hi3,n2,n7,n15,n16,m2,m7,m15,m16,s2,s7,s15,s16,d2,d7,d15,d16,h32,wadd,hset,hlen]
    refine ⟨by omega,hK _ _ ?_⟩
    clear hK K
    simp only [blockQ,thenQ,if_true,if_false]
    exact hnext _ (by simp only [upd,e0,Nc,↓reduceIte]) (by simp only [upd,e2,Nc,↓reduceIte]) (by simp only [upd,e3,Nc,↓reduceIte]) (by simp only [upd,e7,Nc,↓reduceIte])
  ·have hi2 : ¬ (i : Int) < 64:=by omega
   obtain rfl : i = 64:=by omega
   refine jB (Ai @e7 (decide_eq_false hi2)) ?_
   refine wK fun K2 hK2=>?_
   refine jF ?_
   refine awp_exit ?_
   simp only [thenQ,blockQ,if_true]
   clear hK2 K2
   refine hK _ _ ?_;clear hK K
   rw [row_full c]
   have hwl : ((Sha.sch c 64).map wV).length = 64:=by simp [Sha.sch_length]
   have hall:=all_wV (Sha.sch c 64)
   have htk : List.take 64 ((Sha.sch c 64).map wV) = (Sha.sch c 64).map wV:=List.take_of_length_le (by omega)
   obtain ⟨X,hX⟩ : ∃ X,X = (Sha.sch c 64).map wV:=⟨_,rfl⟩
   rw [← hX] at hwl hall htk ⊢
   refine jS (Ai @e2 (Ai @e3 (Ai @hwl (Ai @htk (Ai @hall (Ai @h32 @h32.symm)))))) fun K hK=>?_
   have hr0 : (row c 0).length = 64:=row_len c 0 (by omega)
   rw [asetAll_whole (row c 0) X (by omega)]
   refine ⟨by omega,hK _ _ ?_⟩
   clear hK K
   refine awp_ret ?_
   refine aends_cell (v:=.agg X) (o:=o2) (off:=0) (by simp only [upd,e2,Nc,↓reduceIte]) (AS.set_objs_same _ _ _) (by rw [T.c265]; decide) (by simp only [↓DN,Qa,Qb,Qc,Qd,Qe,Qf,Qg,Qh,reduceCtorEq,↓reduceIte,Na,Nb,Nc,Nk,Nf,Ng,Nh,Za,Zb,Zc,TT,hwl,htk]) ?_
   exact ⟨_,s,AV.weak.refl _,AS.le_set (AS.le_set (AS.le_set (AS.le.refl s) ho2 _) ho3' _) ho2 _,rfl,rfl⟩
end Go.Proofs.YtfjlmkifiihgkaaGreatDoor
namespace Go.Proofs.YtfjlmkifiihgkaaGreatDoor
open Go Go.AM Go.Proofs
variable {Γ : Nat→List AV}
abbrev stC (t : Sha.St) : List AV:=[wV t.a,wV t.b,wV t.c,wV t.d,wV t.e,wV t.f,wV t.g,wV t.h]
theorem c8 : ((8 : Nat) : Int) = 8:=rfl
theorem map_getD (l : List Nat) (i : Nat) (h : i < l.length) : (l.map wV)[i]? = some (wV (l.getD i 0)):=by
 rw [List.getElem?_map,List.getElem?_eq_getElem h]
 simp [List.getD,List.getElem?_eq_getElem h]
def addL (t u : Sha.St) (i : Nat) : List AV:=(stC (t.add u)).take i ++ (stC t).drop i
theorem addL_zero (t u : Sha.St) : addL t u 0 = stC t:=rfl
theorem addL_full (t u : Sha.St) : addL t u 8 = stC (t.add u):=rfl
theorem addL_len (t u : Sha.St) (i : Nat) (h : i≤8) : (addL t u i).length = 8:=by
 simp [addL]; omega
theorem at8 {i : Nat} (h : i < 8) : i = 0∨i = 1∨i = 2∨i = 3∨i = 4∨i = 5∨i = 6∨i = 7:=by omega
theorem addL_drop (t u : Sha.St) (i : Nat) (h : i < 8) : List.drop i (addL t u i) = wV (t.list.getD i 0) :: (stC t).drop (i + 1):=by
 rcases at8 h with rfl | rfl | rfl | rfl | rfl | rfl | rfl | rfl <;> rfl
theorem addL_set (t u : Sha.St) (i : Nat) (h : i < 8) : (addL t u i).set i (wV (Sha.add32 (t.list.getD i 0) (u.list.getD i 0))) = addL t u (i + 1):=by
 rcases at8 h with rfl | rfl | rfl | rfl | rfl | rfl | rfl | rfl <;> rfl
theorem stC_drop (u : Sha.St) (i : Nat) (h : i < 8) : List.drop i (stC u) = wV (u.list.getD i 0) :: (stC u).drop (i + 1):=by
 rcases at8 h with rfl | rfl | rfl | rfl | rfl | rfl | rfl | rfl <;> rfl
theorem stC_all (u : Sha.St) : (stC u).all AV.one = true:=rfl
theorem mix_calls (hG : Γ 1 = Sha.K.map wV) (t : Sha.St) (ht : t.ok) (c : List UInt8) (hc : c.length = 64) (s : AS) :
  ACalls Tryz.prog Γ 175 [.agg (stC t),bytesV c .any] s (fun r s'=>r = .agg (stC (Sha.mix t c))∧s' = s):=by
 refine acalls_body Tryz.func175 rfl Tryz.ntmps175 Tryz.results175 (by simp) ?_
 refine jQ fun K hK=>?_
 intro o2 ho2 o4 ho4
 refine hK _ _ ?_;clear hK K
 obtain ⟨h42,ho4'⟩:=AS.fresh_set ho4
 clear ho4
 refine jS (Ai @h42 @h42.symm) fun K hK=>?_
 intro o5 ho5
 have h54 : o5≠o4:=by intro e; simp [e] at ho5
 have h52 : o5≠o2:=by intro e; subst e; simp [h54] at ho5
 have ho5' : s.objs o5 = none:=by simpa [h54,h52] using ho5
 clear ho5
 refine hK _ _ ?_;clear hK K
 obtain ⟨Z,hZ⟩ : ∃ Z : List AV,Z = [wV 0,wV 0,wV 0,wV 0,wV 0,wV 0,wV 0,wV 0]:=⟨_,rfl⟩
 have hZl : Z.length = 8:=by rw [hZ]; rfl
 rw [show ([AV.v (.int .u32 0),AV.v (.int .u32 0),AV.v (.int .u32 0),AV.v (.int .u32 0),AV.v (.int .u32 0),AV.v (.int .u32 0),AV.v (.int .u32 0),AV.v (.int .u32 0)] : List AV) = Z from hZ.symm]
 refine wK fun K hK=>?_
 refine jQ fun K hK=>?_
 rw [show AV.sl 1 c.length (List.map byteV c) .any = bytesV c .any from rfl]
 refine acallk (spread_calls c hc _) ?_
 rintro r sa ⟨rfl,rfl⟩
 refine jR hK ?_;clear hK K
 obtain ⟨W,hW⟩ : ∃ W,W = Sha.sch c 64:=⟨_,rfl⟩
 have hWl : W.length = 64:=by rw [hW,Sha.sch_length]
 rw [← hW]
 refine awp_block ?_
 refine awp_loop (fun E s1=>∃ i : Nat,i≤64∧E 2 = .ptr o2 0∧E 4 = .ptr o4 0∧E 5 = .ptr o5 0∧E 15 = .agg (W.map wV)∧E 16 = .v (.int .i64 i)∧s1 = ((s.set o2 (stC t)).set o4 Z).set o5 (stC (Sha.rounds W t i)))
  (fun E _=>match E 16 with | .v (.int _ i)=>64 - i.toNat | _=>0) ?_ ?_
 ·exact ⟨0,by omega,by simp [upd],by simp [upd],by simp [upd],by simp [upd],by simp [upd],rfl⟩
 ·rintro E1 s1 ⟨i,hi,e2,e4,e5,e15,e16,rfl⟩ -
  by_cases hi' : i < 64
  ·have hi2 : (i : Int) < 64:=by omega
   have hi3 : (i : Int) < ((64 : Nat) : Int):=by omega
   have hi0 : (0 : Int)≤(i : Int):=by omega
   refine jB (Ai @e16 (decide_eq_true hi2)) ?_
   refine wK fun K2 hK2=>?_
   refine jE ?_
   refine awp_skip ?_
   refine hK2 _ _ ?_;clear hK2 K2
   refine wK fun K3 hK3=>?_
   refine awp_block ?_
   have hwi:=map_getD W i (by omega)
   have hki:=map_getD Sha.K i (by rw [show Sha.K.length = 64 from rfl]; omega)
   have hst:=Sha.rounds_ok (w:=W) ht i
   have hnx : Sha.rounds W t (i + 1) = (Sha.rounds W t i).step (Sha.K.getD i 0) (W.getD i 0):=rfl
   generalize W.getD i 0 = wi at *
   generalize Sha.K.getD i 0 = ki at *
   generalize hu : Sha.rounds W t i = u at *
   have hkd : List.drop i (Sha.K.map wV) = wV ki :: List.drop (i + 1) (Sha.K.map wV):=drop_cons _ _ _ hki
   refine jB (Ai @e15 (Ai @e16 (Ai @hi0 (Ai @hi2 (Ai @hi3 @hwi))))) ?_
   refine awp_mrk_seq T.mixed [(o5,stC u)] [] [1,3] [] (by kernel_rfl) (by simp only [Pres_cons,Pres_nil,and_true]; simp [AS.set,upd]) ?_
   intro K hK
   simp only [↓AXr_nil,↓AXr_cons,gval,lval,fzGet_cons,fzGet_nil,Pres_cons,Pres_nil,List.any_cons,List.any_nil,List.contains_cons,List.contains_nil,Nat.reduceBEq,Bool.or_false,Bool.or_true,Bool.or_self,Bool.false_or,↓DN,Qa,Qb,Qc,Qd,Qe,Qf,Qg,Qh,reduceCtorEq,↓reduceIte,Na,Nb,Nc,Nk,Nf,Ng,Nh,Za,Zb,Zc,TT,e5,c8]
   refine hK _ _ ?_;clear hK K
   refine awp_mrk_seq T.mixed [(o5,stC u)] [3] [1,7,12] [] (by kernel_rfl) (by simp only [Pres_cons,Pres_nil,and_true]; simp [AS.set,upd]) ?_
   intro K hK
   simp only [↓AXr_nil,↓AXr_cons,gval,lval,fzGet_cons,fzGet_nil,Pres_cons,Pres_nil,List.any_cons,List.any_nil,List.contains_cons,List.contains_nil,Nat.reduceBEq,Bool.or_false,Bool.or_true,Bool.or_self,Bool.false_or,↓DN,Qa,Qb,Qc,Qd,Qe,Qf,Qg,Qh,reduceCtorEq,↓reduceIte,Na,Nb,Nc,Nk,Nf,Ng,Nh,Za,Zb,Zc,TT,e5,e16,c8]
   have lt2 : ∀ {a b : Nat},a < 4294967296→b < 4294967296→a &&& b < 4294967296:=fun {a b} ha hb=>Nat.lt_of_le_of_lt Nat.and_le_left ha
   have lx2 : ∀ {a b : Nat},a < 4294967296→b < 4294967296→a ^^^ b < 4294967296:=fun {a b} ha hb=>Nat.xor_lt_two_pow (n:=32) ha hb
   have hn : 4294967295 - u.e < 4294967296:=by omega
   refine acallk (turned_calls u.e 6 11 25 hst.e (by omega) (by omega) (by omega) (by omega) (by omega) (by omega) _) ?_
   rintro r sb ⟨rfl,rfl⟩
   simp only [↓AXq_nil,↓AXq_cons,pval,↓AXr_nil,↓AXr_cons,gval,lval,fzGet_cons,fzGet_nil,Pres_cons,Pres_nil,List.any_cons,List.any_nil,DX,Nat.reduceBEq,↓DN,Qa,Qb,Qc,Qd,Qe,Qf,Qg,Qh,reduceCtorEq,↓reduceIte,Na,Nb,Nc,Nk,Nf,Ng,Nh,Za,Zb,Zc,TT,e5,e16,c8,hG,hkd,hi0,hi3,wadd,wand u.e u.f hst.e hst.f,wnot u.e hst.e,wand (4294967295 - u.e) u.g hn hst.g,wxor (u.e &&& u.f) ((4294967295 - u.e) &&& u.g) (lt2 hst.e hst.f) (lt2 hn hst.g)]
   refine hK _ _ ?_;clear hK K
   refine awp_mrk_seq T.mixed [(o5,stC u)] [1] [4,8,12,14] [] (by kernel_rfl) (by simp only [Pres_cons,Pres_nil,and_true]; simp [AS.set,upd]) ?_
   intro K hK
   simp only [↓AXr_nil,↓AXr_cons,gval,lval,fzGet_cons,fzGet_nil,Pres_cons,Pres_nil,List.any_cons,List.any_nil,List.contains_cons,List.contains_nil,Nat.reduceBEq,Bool.or_false,Bool.or_true,Bool.or_self,Bool.false_or,↓DN,Qa,Qb,Qc,Qd,Qe,Qf,Qg,Qh,reduceCtorEq,↓reduceIte,Na,Nb,Nc,Nk,Nf,Ng,Nh,Za,Zb,Zc,TT,e5,c8]
   refine acallk (turned_calls u.a 2 13 22 hst.a (by omega) (by omega) (by omega) (by omega) (by omega) (by omega) _) ?_
   rintro r sb ⟨rfl,rfl⟩
   simp only [↓AXq_nil,↓AXq_cons,pval,↓AXr_nil,↓AXr_cons,gval,lval,fzGet_cons,fzGet_nil,Pres_cons,Pres_nil,List.any_cons,List.any_nil,DX,Nat.reduceBEq,↓DN,Qa,Qb,Qc,Qd,Qe,Qf,Qg,Qh,reduceCtorEq,↓reduceIte,Na,Nb,Nc,Nk,Nf,Ng,Nh,Za,Zb,Zc,TT,e5,c8,wadd,wand u.a u.b hst.a hst.b,wand u.a u.c hst.a hst.c,wand u.b u.c hst.b hst.c,wxor (u.a &&& u.b) (u.a &&& u.c) (lt2 hst.a hst.b) (lt2 hst.a hst.c),wxor ((u.a &&& u.b) ^^^ (u.a &&& u.c)) (u.b &&& u.c) (lx2 (lt2 hst.a hst.b) (lt2 hst.a hst.c)) (lt2 hst.b hst.c)]
   refine hK _ _ ?_;clear hK K
   refine jD (Ai @e5 (Ai @c8 @wadd)) ?_
   simp only [blockQ,thenQ,if_true,if_false]
   refine hK3 _ _ ?_;clear hK3 K3
   refine jD (Ai @e16 (w_succ i (by omega))) ?_
   refine ⟨⟨i + 1,by omega,by simp only [upd,e2,Nc,↓reduceIte],by simp only [upd,e4,Nc,↓reduceIte],by simp only [upd,e5,Nc,↓reduceIte],by simp only [upd,e15,Nc,↓reduceIte],by simp only [upd,↓reduceIte],?_⟩,?_⟩
   ·rw [hnx]
    simp only [stC,Sha.St.step,Sha.t1,Sha.t2]
   ·simp only [e16,upd,↓reduceIte]
    omega
  ·have hi2 : ¬ (i : Int) < 64:=by omega
   obtain rfl : i = 64:=by omega
   refine jB (Ai @e16 (decide_eq_false hi2)) ?_
   refine wK fun K2 hK2=>?_
   refine jF ?_
   refine awp_exit ?_
   simp only [thenQ,blockQ,if_true]
   clear hK2 K2
   refine hK _ _ ?_;clear hK K
   have hmix : Sha.mix t c = t.add (Sha.rounds W t 64):=by rw [hW]; rfl
   rw [hmix]
   generalize Sha.rounds W t 64 = u
   rw [← addL_zero t u]
   refine wK fun K hK=>?_
   refine jA ?_
   refine awp_block ?_
   refine awp_loop (fun E s1=>∃ i : Nat,i≤8∧E 2 = .ptr o2 0∧E 4 = .ptr o4 0∧E 5 = .ptr o5 0∧E 83 = .v (.int .i64 i)∧s1.objs o2 = some (addL t u i)∧s1.objs o5 = some (stC u)∧s1.objs o4 = some Z∧s.le s1)
    (fun E _=>match E 83 with | .v (.int _ i)=>8 - i.toNat | _=>0) ?_ ?_
   ·refine ⟨0,by omega,by simp only [upd,e2,Nc,↓reduceIte],by simp only [upd,e4,Nc,↓reduceIte],by simp only [upd,e5,Nc,↓reduceIte],by simp only [upd,↓reduceIte]; rfl,?_,AS.set_objs_same _ _ _,?_,AS.le_set (AS.le_set (AS.le_set (AS.le.refl s) ho2 _) ho4' _) ho5' _⟩
    ·rw [AS.set_objs_ne _ h52.symm,AS.set_objs_ne _ h42.symm,AS.set_objs_same]
    ·rw [AS.set_objs_ne _ h54.symm,AS.set_objs_same]
   ·rintro E2 s2 ⟨i,hi,g2,g4,g5,g83,j2,j5,j4,hle⟩ -
    by_cases hi' : i < 8
    ·have hi2 : (i : Int) < 8:=by omega
     have hi0 : (0 : Int)≤(i : Int):=by omega
     refine jB (Ai @g83 (decide_eq_true hi2)) ?_
     refine wK fun K2 hK2=>?_
     refine jE ?_
     refine awp_skip ?_
     refine hK2 _ _ ?_;clear hK2 K2
     refine wK fun K3 hK3=>?_
     refine awp_block ?_
     refine jB @g83 ?_
     have d2:=addL_drop t u i hi'
     have d5:=stC_drop u i hi'
     have hset:=addL_set t u i hi'
     have hlen:=addL_len t u i hi
     generalize t.list.getD i 0 = x at *
     generalize u.list.getD i 0 = y at *
     obtain ⟨X,hX⟩ : ∃ X,X = addL t u i:=⟨_,rfl⟩
     rw [← hX] at d2 hset hlen j2
     obtain ⟨Y,hY⟩ : ∃ Y,Y = stC u:=⟨_,rfl⟩
     rw [← hY] at d5 j5
     refine awp_mrk_end T.mixed [(o2,X),(o5,Y)] [] [2,5] [8] (by kernel_rfl) (by simp only [Pres_cons,Pres_nil,and_true]; simp [AS.set,upd,j2,j5]) ?_
     intro K hK
     simp only [↓AXr_nil,↓AXr_cons,gval,lval,fzGet_cons,fzGet_nil,Pres_cons,Pres_nil,List.any_cons,List.any_nil,List.contains_cons,List.contains_nil,Nat.reduceBEq,Bool.or_false,Bool.or_true,Bool.or_self,Bool.false_or,↓DN,Qa,Qb,Qc,Qd,Qe,Qf,Qg,Qh,reduceCtorEq,↓reduceIte,Na,Nb,Nc,Nk,Nf,Ng,Nh,Za,Zb,Zc,TT,g2,g5,g83,c8,hi0,hi2,d2,d5,h52,h52.symm,j2,j5,wadd,hset,hlen]
     refine ⟨by omega,hK _ _ ?_⟩
     clear hK K
     simp only [blockQ,thenQ,if_true,if_false]
     refine hK3 _ _ ?_;clear hK3 K3
     refine jD (Ai @g83 (w_succ i (by omega))) ?_
     refine ⟨⟨i + 1,by omega,by simp only [upd,g2,Nc,↓reduceIte],by simp only [upd,g4,Nc,↓reduceIte],by simp only [upd,g5,Nc,↓reduceIte],by simp only [upd,↓reduceIte],AS.set_objs_same _ _ _,by rw [AS.set_objs_ne _ h52,j5,hY],by rw [AS.set_objs_ne _ h42]; exact j4,AS.le_set hle ho2 _⟩,?_⟩
     simp only [g83,upd,↓reduceIte]
     omega
    ·have hi2 : ¬ (i : Int) < 8:=by omega
     obtain rfl : i = 8:=by omega
     refine jB (Ai @g83 (decide_eq_false hi2)) ?_
     refine wK fun K2 hK2=>?_
     refine jF ?_
     refine awp_exit ?_
     simp only [thenQ,blockQ,if_true]
     clear hK2 K2
     refine hK _ _ ?_;clear hK K
     rw [addL_full] at j2
     have hall:=stC_all (t.add u)
     have hlen : (stC (t.add u)).length = 8:=rfl
     have htk : List.take 8 (stC (t.add u)) = stC (t.add u):=rfl
     obtain ⟨X,hX⟩ : ∃ X,X = stC (t.add u):=⟨_,rfl⟩
     rw [← hX] at j2 hall hlen htk ⊢
     refine jS (Ai @g2 (Ai @g4 (Ai @j2 (Ai @j4 (Ai @hlen (Ai @htk @hall)))))) fun K hK=>?_
     rw [asetAll_whole Z X (by omega)]
     refine ⟨by omega,hK _ _ ?_⟩
     clear hK K
     refine awp_ret ?_
     refine aends_cell (v:=.agg X) (o:=o4) (off:=0) (by simp only [upd,g4,Nc,↓reduceIte]) (AS.set_objs_same _ _ _) (by rw [T.c214]; decide) (by simp only [↓DN,Qa,Qb,Qc,Qd,Qe,Qf,Qg,Qh,reduceCtorEq,↓reduceIte,Na,Nb,Nc,Nk,Nf,Ng,Nh,Za,Zb,Zc,TT,hlen,htk]) ?_
     exact ⟨_,s,AV.weak.refl _,AS.le_set hle ho4' _,rfl,rfl⟩
end Go.Proofs.YtfjlmkifiihgkaaGreatDoor
namespace Go.Proofs.YtfjlmkifiihgkaaGreatDoor
open Go Go.AM Go.Proofs
variable {Γ : Nat→List AV}
theorem cap0 : ((0 : Nat) : Int) = 0:=rfl
theorem grow_calls (n : Nat) (hn : n≤2 ^ 45) (s : AS) :
  ACalls Tryz.prog Γ 232 [.v (.slice none 0 0),.v (.int .i64 (n : Int))] s (fun r s'=>OutS s [] r s'):=by
 refine acalls_body Tryz.func232 rfl Tryz.ntmps232 Tryz.results232 (by simp) ?_
 have hneg : ¬ ((n : Int) < 0):=by omega
 have hsub : isub .i64 (n : Int) (isub .i64 ((0 : Nat) : Int) ((0 : Nat) : Int)) = (n : Int):=by
  rw [show isub .i64 ((0 : Nat) : Int) ((0 : Nat) : Int) = 0 from by decide,isub_i64 (by omega)]
  omega
 refine jA ?_
 refine wK fun K hK=>?_
 refine jB (decide_eq_false hneg) ?_
 refine jF ?_
 refine awp_skip ?_
 refine hK _ _ ?_;clear hK K
 refine wK fun K hK=>?_
 refine jB @hsub ?_
 have hrest : ∀ (E : Env) (r : AV) (s1 : AS),E 0 = r→OutS s [] r s1→K E s1:=by
  intro E r s1 h0 h1
  refine hK _ _ ?_;clear hK K
  refine jB @h0 ?_
  refine jI ?_
  exact ⟨_,_,AV.weak.refl _,AS.le.refl _,h1⟩
 clear hK
 by_cases h0 : n = 0
 ·subst h0
  refine jA ?_
  refine wC fun X Y hX hY=>?_
  simp only [UP,DF,Nc,↓reduceIte,DB]
  refine ⟨fun h=>absurd h (by decide),fun _=>hY ?_⟩
  clear hX hY X Y
  refine awp_skip ?_
  exact hrest _ _ _ (by simp only [upd,initE,Nc,↓reduceIte]; rfl) (OutS.nil s)
 ·have hgt : (0 : Int) < (n : Int):=by omega
  refine jB (decide_eq_true hgt) ?_
  refine jE ?_
  refine awp_reg_grow10 (k:=.i64) (e:=5) (z:=[.v (.int .u8 0)]) rfl rfl rfl (by decide) rfl rfl rfl (by decide) Tryz.underlying22 Tryz.underlying22 Tryz.underlying3 ⟨T.z5,by rw [T.c5]; decide,by rw [T.c5]; rfl⟩ T.c5 ?_
  intro ops
  simp only [↓DN,Qa,Qb,Qc,Qd,Qe,Qf,Qg,Qh,reduceCtorEq,↓reduceIte,Na,Nb,Nc,Nk,Nf,Ng,Nh,Za,Zb,Zc,TT,cap0,true_and]
  refine ⟨n,rfl,h0,by omega,by omega,fun t v ht=>?_⟩
  exact hrest _ (.sl 1 0 [] (.own t 0)) _ (by simp only [upd,↓reduceIte]) ⟨AS.le_gain (AS.le.refl s) ht 0,.inr ⟨t,0,ht,AS.gain_own_same _ _ _,rfl⟩⟩
def PartsB (ls : List (List UInt8)) : List AV:=ls.map fun l=>bytesV l .any
theorem partsB_get (ls : List (List UInt8)) (i : Nat) (h : i < ls.length) : List.take 1 (List.drop i (PartsB ls)) = [bytesV ls[i] .any]:=by
 have : (PartsB ls)[i]? = some (bytesV ls[i] .any):=by simp [PartsB,h]
 rw [drop_cons _ _ _ this]
 rfl
theorem flat_succ (ls : List (List UInt8)) (i : Nat) (h : i < ls.length) : (ls.take (i + 1)).flatten = (ls.take i).flatten ++ ls[i]:=by
 rw [List.take_succ_eq_append_getElem h,List.flatten_append,List.flatten_cons,List.flatten_nil,List.append_nil]
theorem flat_le (ls : List (List UInt8)) (i : Nat) : (ls.take i).flatten.length≤ls.flatten.length:=by
 have : ls.flatten = (ls.take i).flatten ++ (ls.drop i).flatten:=by rw [← List.flatten_append,List.take_append_drop]
 rw [this,List.length_append]
 omega
theorem concat_calls (ls : List (List UInt8)) (sp : Sp) (hn : ls.length≤2 ^ 45) (hl : ls.flatten.length≤2 ^ 45) (s : AS) :
  ACalls Tryz.prog Γ 174 [.sl 1 ls.length (PartsB ls) sp] s (fun r s'=>OutS s ls.flatten r s'):=by
 refine acalls_body Tryz.func174 rfl Tryz.ntmps174 Tryz.results174 (by simp) ?_
 refine jA ?_
 refine jA ?_
 refine wK fun K hK=>?_
 refine jA ?_
 refine awp_block ?_
 refine awp_loop (fun E s1=>∃ i : Nat,i≤ls.length∧E 0 = .sl 1 ls.length (PartsB ls) sp∧E 3 = .v (.int .i64 ((ls.take i).flatten.length : Nat))∧E 9 = .sl 1 ls.length (PartsB ls) sp∧E 10 = .v (.int .i64 ls.length)∧E 11 = .v (.int .i64 i)∧s1 = s)
  (fun E _=>match E 11 with | .v (.int _ i)=>ls.length - i.toNat | _=>0) ?_ ?_
 ·exact ⟨0,Nat.zero_le _,by simp [upd,initE],by simp [upd],by simp [upd,initE],by simp [upd],by simp [upd],rfl⟩
 ·rintro E1 s1 ⟨i,hi,e0,e3,e9,e10,e11,rfl⟩ -
  by_cases hi' : i < ls.length
  ·have hlt : (i : Int) < (ls.length : Int):=by omega
   have hge : (0 : Int)≤(i : Int):=by omega
   have hfl:=flat_le ls (i + 1)
   have hsucc:=flat_succ ls i hi'
   have hget:=partsB_get ls i hi'
   generalize ls[i] = l at *
   refine jB (Ai @e10 (Ai @e11 (decide_eq_true hlt))) ?_
   refine wK fun K2 hK2=>?_
   refine jE ?_
   refine awp_skip ?_
   refine hK2 _ _ ?_;clear hK2 K2
   refine wK fun K3 hK3=>?_
   refine awp_block ?_
   refine jB (Ai @e9 (Ai @e11 (Ai @hge (Ai @hlt @hget)))) ?_
   have hsz : iadd .i64 ((ls.take i).flatten.length : Int) (l.length : Int) = ((ls.take (i + 1)).flatten.length : Int):=by
    rw [hsucc,List.length_append]
    rw [hsucc,List.length_append] at hfl
    exact i64_add _ _ (by omega)
   refine jB (Ai @e3 @hsz) ?_
   have hneg : ¬ (((ls.take (i + 1)).flatten.length : Int) < 0):=by omega
   refine jB (decide_eq_false hneg) ?_
   refine jF ?_
   refine awp_skip ?_
   simp only [thenQ,blockQ,if_true,if_false]
   refine hK3 _ _ ?_;clear hK3 K3
   refine jD (Ai @e11 (w_succ i (by omega))) ?_
   refine ⟨⟨i + 1,by omega,by simp only [upd,e0,Nc,↓reduceIte],by simp only [upd,Nc,↓reduceIte],by simp only [upd,e9,Nc,↓reduceIte],by simp only [upd,e10,Nc,↓reduceIte],by simp only [upd,↓reduceIte],rfl⟩,?_⟩
   simp only [e11,upd,↓reduceIte]
   omega
  ·have hlt : ¬ (i : Int) < (ls.length : Int):=by omega
   obtain rfl : i = ls.length:=by omega
   rw [List.take_of_length_le (Nat.le_refl _)] at e3
   refine jB (Ai @e10 (Ai @e11 (decide_eq_false hlt))) ?_
   refine wK fun K2 hK2=>?_
   refine jF ?_
   refine awp_exit ?_
   simp only [thenQ,blockQ,if_true]
   clear hK2 K2
   refine hK _ _ ?_;clear hK K
   refine jS @e3 fun K hK=>?_
   refine acallk (grow_calls ls.flatten.length hl _) ?_
   intro r sa hout
   refine jR hK ?_;clear hK K
   refine wK fun K hK=>?_
   refine jB @e0 ?_
   refine awp_block ?_
   refine awp_loop (fun E s2=>∃ i : Nat,i≤ls.length∧E 25 = .sl 1 ls.length (PartsB ls) sp∧E 26 = .v (.int .i64 ls.length)∧E 27 = .v (.int .i64 i)∧OutS s1 (ls.take i).flatten (E 6) s2)
    (fun E _=>match E 27 with | .v (.int _ i)=>ls.length - i.toNat | _=>0) ?_ ?_
   ·exact ⟨0,Nat.zero_le _,by simp only [upd,Nc,↓reduceIte],by simp only [upd,Nc,↓reduceIte],by simp only [upd,Nc,↓reduceIte]; rfl,by simpa only [upd,Nc,↓reduceIte,List.take_zero,List.flatten_nil] using hout⟩
   ·rintro E2 s2 ⟨i,hi,g25,g26,g27,gout⟩ -
    by_cases hi' : i < ls.length
    ·have hlt : (i : Int) < (ls.length : Int):=by omega
     have hge : (0 : Int)≤(i : Int):=by omega
     have hfl:=flat_le ls (i + 1)
     have hsucc:=flat_succ ls i hi'
     have hget:=partsB_get ls i hi'
     generalize ls[i] = l at *
     refine jB (Ai @g26 (Ai @g27 (decide_eq_true hlt))) ?_
     refine wK fun K2 hK2=>?_
     refine jE ?_
     refine awp_skip ?_
     refine hK2 _ _ ?_;clear hK2 K2
     refine wK fun K3 hK3=>?_
     refine awp_block ?_
     refine jB (Ai @g25 (Ai @g27 (Ai @hge (Ai @hlt @hget)))) ?_
     generalize hr6 : E2 6 = r6 at gout
     refine jU @hr6 fun K hK=>?_
     have hb : (ls.take i).flatten.length + l.length≤2 ^ 45:=by
      rw [hsucc,List.length_append] at hfl
      omega
     refine aappend_out gout rfl rfl T.c5 T.b5 hb ?_
     intro r2 s3 hout2
     rw [← hsucc] at hout2
     refine hK _ _ ?_;clear hK K
     simp only [thenQ,blockQ,if_true,if_false]
     refine hK3 _ _ ?_;clear hK3 K3
     refine jD (Ai @g27 (w_succ i (by omega))) ?_
     refine ⟨⟨i + 1,by omega,by simp only [upd,g25,Nc,↓reduceIte],by simp only [upd,g26,Nc,↓reduceIte],by simp only [upd,↓reduceIte],by simpa only [upd,Nc,↓reduceIte] using hout2⟩,?_⟩
     simp only [g27,upd,↓reduceIte]
     omega
    ·have hlt : ¬ (i : Int) < (ls.length : Int):=by omega
     obtain rfl : i = ls.length:=by omega
     rw [List.take_of_length_le (Nat.le_refl _)] at gout
     refine jB (Ai @g26 (Ai @g27 (decide_eq_false hlt))) ?_
     refine wK fun K2 hK2=>?_
     refine jF ?_
     refine awp_exit ?_
     simp only [thenQ,blockQ,if_true]
     clear hK2 K2
     refine hK _ _ ?_;clear hK K
     generalize hr6 : E2 6 = r6 at gout
     refine jB @hr6 ?_
     refine jI ?_
     exact ⟨_,_,AV.weak.refl _,AS.le.refl _,gout⟩
end Go.Proofs.YtfjlmkifiihgkaaGreatDoor
namespace Go.Proofs.YtfjlmkifiihgkaaGreatDoor
open Go Go.AM Go.Proofs
variable {Γ : Nat→List AV}
theorem outS_own {s s' : AS} {l : List UInt8} {r : AV} (h : OutS s l r s') (h0 : l≠[]) : ∃ t e,r = .sl 1 l.length (l.map byteV) (.own t e):=by
 rcases h.2 with ⟨rfl,_⟩ | ⟨t,e,_,_,rfl⟩
 ·exact absurd rfl h0
 ·exact ⟨t,e,rfl⟩
theorem rem64 (a : Nat) : irem (a : Int) 64 = ((a % 64 : Nat) : Int):=irem_u a 64
theorem lenB_get (n j : Nat) (h : j < 8) : (Sha.lenB n)[j]? = some (UInt8.ofNat (8 * n / 2 ^ (8 * (7 - j)))):=by
 have : j = 0∨j = 1∨j = 2∨j = 3∨j = 4∨j = 5∨j = 6∨j = 7:=by omega
 rcases this with rfl | rfl | rfl | rfl | rfl | rfl | rfl | rfl <;> simp [Sha.lenB]
theorem take_get {α : Type} (l : List α) (j : Nat) (x : α) (h : l[j]? = some x) : l.take (j + 1) = l.take j ++ [x]:=by
 obtain ⟨h1,h2⟩:=List.getElem?_eq_some_iff.1 h
 rw [List.take_succ_eq_append_getElem h1,h2]
theorem byte_of (x : Nat) : byteV (UInt8.ofNat x) = .v (.int .u8 (iconv .u8 (x : Int))):=by
 rw [iconv_u rfl]
 simp [byteV,IntKind.bits]
theorem len_shr (n j : Nat) (hj : j < 8) (hn : n≤2 ^ 45) : ishr .i64 (imul .i64 8 (n : Int)) (imul .i64 8 ((7 - j : Nat) : Int)) = ((8 * n / 2 ^ (8 * (7 - j)) : Nat) : Int):=by
 rw [imul_i64 (by omega),imul_i64 (by omega),show (8 : Int) * (n : Int) = ((8 * n : Nat) : Int) from by omega,show (8 : Int) * ((7 - j : Nat) : Int) = ((8 * (7 - j) : Nat) : Int) from by omega,ishr_u]
 simp only [IntKind.bits]
 rw [Nat.min_eq_left (by omega)]
theorem bne_t {a b : Int} (h : a≠b) : (a != b) = true:=by simpa using h
theorem bne_f {a b : Int} (h : a = b) : (a != b) = false:=by simpa using h
theorem pow_len (n : Nat) (hn : n≤2 ^ 45) (j : Nat) (hj : j < 8) : ¬ (imul .i64 8 ((7 - j : Nat) : Int) < 0):=by
 rw [imul_i64 (by omega)]
 omega
theorem padded_calls (l : List UInt8) (hl : l.length≤2 ^ 44) (s s1 : AS) (r0 : AV) (h : OutS s l r0 s1) :
  ACalls Tryz.prog Γ 173 [r0] s1 (fun r s'=>OutS s (Sha.pad l) r s'):=by
 refine acalls_body Tryz.func173 rfl Tryz.ntmps173 Tryz.results173 (by simp) ?_
 refine jA ?_
 refine wS fun K hK=>?_
 have hc : ∀ E : Env,E 0 = r0→E 3 = .v (.int .i64 l.length)→K E s1:=by
  intro E e0 e3
  refine hK _ _ ?_;clear hK K
  refine wS fun K hK=>?_
  simp only [↓DN,Qa,Qb,Qc,Qd,Qe,Qf,Qg,Qh,reduceCtorEq,↓reduceIte,Na,Nb,Nc,Nk,Nf,Ng,Nh,Za,Zb,Zc,TT,e0,List.replicate_one,Nat.lt_irrefl]
  refine aappend_out (ds:=[128]) h rfl rfl T.c5 T.b5 (by simp; omega) ?_
  intro r2 s2 h2
  refine hK _ _ ?_;clear hK K
  refine wK fun K hK=>?_
  refine awp_block ?_
  refine awp_loop (fun E s2=>∃ k : Nat,k≤Sha.zeros l.length∧E 3 = .v (.int .i64 l.length)∧OutS s (l ++ [128] ++ List.replicate k 0) (E 0) s2)
   (fun E s2=>match E 0 with | .sl _ n _ _=>l.length + 1 + Sha.zeros l.length - n | _=>0) ?_ ?_
  ·exact ⟨0,Nat.zero_le _,by simp only [upd,e3,Nc,↓reduceIte],by simpa only [upd,↓reduceIte,List.replicate_zero,List.append_nil] using h2⟩
  ·rintro E2 s3 ⟨k,hk,g3,gout⟩ -
   refine wK fun K2 hK2=>?_
   obtain ⟨t,e,g0⟩:=outS_own gout (by simp)
   have hlen : (l ++ [128] ++ List.replicate k 0).length = l.length + 1 + k:=by simp; omega
   generalize hL : l ++ [128] ++ List.replicate k 0 = L at *
   have hLn : L≠[]:=by intro e'; rw [e'] at hlen; simp only [List.length_nil] at hlen; omega
   by_cases hk' : k = Sha.zeros l.length
   ·have h56 : L.length % 64 = 56:=by rw [hlen,hk',Sha.zeros]; omega
    have hb:=bne_f (show ((L.length % 64 : Nat) : Int) = 56 by omega)
    refine jB (Ai @g0 (Ai @rem64 @hb)) ?_
    refine wC fun X Y hX hY=>?_
    simp only [↓DN,Qa,Qb,Qc,Qd,Qe,Qf,Qg,Qh,reduceCtorEq,↓reduceIte,Na,Nb,Nc,Nk,Nf,Ng,Nh,Za,Zb,Zc,TT,DB,hb]
    refine hY ?_;clear hX hY X Y
    refine awp_exit ?_
    simp only [thenQ,blockQ,if_true]
    clear hK2 K2
    refine hK _ _ ?_;clear hK K
    rw [← g0]
    refine wK fun K hK=>?_
    refine jA ?_
    refine awp_block ?_
    refine awp_loop (fun E s2=>∃ j : Nat,j≤8∧E 3 = .v (.int .i64 l.length)∧E 4 = .v (.int .i64 ((7 : Int) - j))∧OutS s (L ++ (Sha.lenB l.length).take j) (E 0) s2)
     (fun E s2=>match E 4 with | .v (.int _ i)=>(i + 1).toNat | _=>0) ?_ ?_
    ·exact ⟨0,by omega,by simp only [upd,g3,Nc,↓reduceIte],by simp only [upd,↓reduceIte]; rfl,by simpa only [upd,Nc,↓reduceIte,List.take_zero,List.append_nil] using gout⟩
    ·rintro E3 s4 ⟨j,hj,f3,f4,fout⟩ -
     refine wK fun K2 hK2=>?_
     obtain ⟨t',e',f0⟩:=outS_own fout (by simp [hLn])
     by_cases hj' : j < 8
     ·have hge : (0 : Int)≤(7 : Int) - j:=by omega
      refine jB (Ai @f4 (decide_eq_true hge)) ?_
      refine jE ?_
      refine awp_skip ?_
      refine hK2 _ _ ?_;clear hK2 K2
      refine wK fun K3 hK3=>?_
      refine awp_block ?_
      have e7 : (7 : Int) - j = ((7 - j : Nat) : Int):=by omega
      rw [e7] at f4
      have hpos:=pow_len l.length (by omega) j hj'
      have hsh:=len_shr l.length j hj' (by omega)
      generalize hr6 : E3 0 = r6 at fout
      refine wE fun K hK=>?_
      simp only [↓DN,Qa,Qb,Qc,Qd,Qe,Qf,Qg,Qh,reduceCtorEq,↓reduceIte,Na,Nb,Nc,Nk,Nf,Ng,Nh,Za,Zb,Zc,TT,hr6,f3,f4,hpos,hsh,List.replicate_one,Nat.lt_irrefl]
      refine aappend_out (ds:=[UInt8.ofNat (8 * l.length / 2 ^ (8 * (7 - j)))]) fout rfl (by rw [List.map_cons,byte_of]; rfl) T.c5 T.b5 (by rw [List.length_append,List.length_take,hlen]; unfold Sha.zeros at hk; simp only [List.length_cons,List.length_nil]; omega) ?_
      intro r2 s5 h5
      rw [List.append_assoc,← take_get _ _ _ (lenB_get l.length j hj')] at h5
      refine hK _ _ ?_;clear hK K
      simp only [thenQ,blockQ,if_true,if_false]
      refine hK3 _ _ ?_;clear hK3 K3
      have hdec : isub .i64 ((7 - j : Nat) : Int) 1 = (7 : Int) - ((j + 1 : Nat) : Int):=by
       rw [isub_i64 (by omega)]
       omega
      refine jD (Ai @f4 @hdec) ?_
      refine ⟨⟨j + 1,by omega,by simp only [upd,f3,Nc,↓reduceIte],by simp only [upd,↓reduceIte],by simpa only [upd,Nc,↓reduceIte] using h5⟩,?_⟩
      simp only [f4,upd,↓reduceIte]
      omega
     ·have hge : ¬ (0 : Int)≤(7 : Int) - j:=by omega
      obtain rfl : j = 8:=by omega
      refine jB (Ai @f4 (decide_eq_false hge)) ?_
      refine jF ?_
      refine awp_exit ?_
      simp only [thenQ,blockQ,if_true]
      clear hK2 K2
      refine hK _ _ ?_;clear hK K
      have hfin : L ++ (Sha.lenB l.length).take 8 = Sha.pad l:=by
       rw [← hL,hk',Sha.pad,show (Sha.lenB l.length).take 8 = Sha.lenB l.length from rfl]
       simp
      rw [hfin] at fout
      generalize hr6 : E3 0 = r6 at fout
      refine jB @hr6 ?_
      refine jI ?_
      exact ⟨_,_,AV.weak.refl _,AS.le.refl _,fout⟩
   ·have h56 : L.length % 64≠56:=by rw [hlen]; unfold Sha.zeros at hk hk'; omega
    have hb:=bne_t (show ((L.length % 64 : Nat) : Int)≠56 by omega)
    refine jB (Ai @g0 (Ai @rem64 @hb)) ?_
    refine wC fun X Y hX hY=>?_
    simp only [↓DN,Qa,Qb,Qc,Qd,Qe,Qf,Qg,Qh,reduceCtorEq,↓reduceIte,Na,Nb,Nc,Nk,Nf,Ng,Nh,Za,Zb,Zc,TT,DB,hb]
    refine hX ?_;clear hX hY X Y
    refine awp_skip ?_
    refine hK2 _ _ ?_;clear hK2 K2
    refine awp_block ?_
    generalize hr6 : E2 0 = r6 at gout
    refine wE fun K hK=>?_
    simp only [↓DN,Qa,Qb,Qc,Qd,Qe,Qf,Qg,Qh,reduceCtorEq,↓reduceIte,Na,Nb,Nc,Nk,Nf,Ng,Nh,Za,Zb,Zc,TT,hr6,List.replicate_one,Nat.lt_irrefl]
    refine aappend_out (ds:=[0]) gout rfl rfl T.c5 T.b5 (by rw [hlen]; unfold Sha.zeros at hk; simp; omega) ?_
    intro r2 s2 h2
    have hL2 : L ++ [0] = l ++ [128] ++ List.replicate (k + 1) 0:=by rw [← hL,List.replicate_succ',List.append_assoc _ (List.replicate k 0)]
    rw [hL2] at h2
    refine hK _ _ ?_;clear hK K
    simp only [thenQ,blockQ,if_true,if_false]
    obtain ⟨t2,e2,q0⟩:=outS_own h2 (by simp)
    refine ⟨⟨k + 1,by omega,by simp only [upd,g3,Nc,↓reduceIte],by simpa only [upd,↓reduceIte] using h2⟩,?_⟩
    rw [hr6] at g0
    simp only [upd,↓reduceIte,hr6,q0,g0,List.length_append,List.length_replicate,List.length_cons,List.length_nil,hlen]
    omega
 rcases h.2 with ⟨rfl,rfl⟩ | ⟨t,e,_,_,rfl⟩
 ·simp only [↓DM,pval,DX,Nz,↓DN,Qa,Qb,Qc,Qd,Qe,Qf,Qg,Qh,reduceCtorEq,↓reduceIte,Na,Nb,Nc,Nk,Nf,Ng,Nh,Za,Zb,Zc,TT]
  exact hc _ (by simp only [upd,initE,Nc,↓reduceIte]; rfl) (by simp only [upd,↓reduceIte]; rfl)
 ·simp only [↓DM,pval,DX,Nz,↓DN,Qa,Qb,Qc,Qd,Qe,Qf,Qg,Qh,reduceCtorEq,↓reduceIte,Na,Nb,Nc,Nk,Nf,Ng,Nh,Za,Zb,Zc,TT]
  exact hc _ (by simp only [upd,initE,Nc,↓reduceIte]; rfl) (by simp only [upd,↓reduceIte])
end Go.Proofs.YtfjlmkifiihgkaaGreatDoor
namespace Go.Proofs.YtfjlmkifiihgkaaGreatDoor
open Go Go.AM Go.Proofs
variable {Γ : Nat→List AV}
def chunkV (cs : List AV) (i : Nat) : AV:=.sl 1 64 (List.drop (64 * i) (List.take (64 * i + 64) cs)) .full
theorem chunk1_iter (cs : List AV) (t e m : Nat) (hl : cs.length = 64 * m) (hm : m≤2 ^ 40) :
  IterA Tryz.prog Γ 231 [.rop [.sl 1 (64 * m) cs (.own t e)],.rop [.v (.int .i64 64)]] ((List.range m).map (chunkV cs)):=by
 intro S l G W lb hdf hlb hs hy
 refine callsIn_of_wp Tryz.func231 rfl trivial ?_
 have hent:=Rel.entry (N:=31) (args:=[.v (.func (.yield l) #[] #[]),.rop [.sl 1 (64 * m) cs (.own t e)],.rop [.v (.int .i64 64)]]) (vs:=.func (.yield l) #[] #[] :: lb) hs (by simp only [VRels]; exact ⟨_,_,rfl,by simp [VRel],by simpa only [VRels] using hlb⟩) (by simp) hdf
 rw [show (#[.func (.yield l) #[] #[]] ++ lb.toArray : Array Value) = (.func (.yield l) #[] #[] :: lb).toArray from by simp,Tryz.ntmps231]
 refine wpIn_seq ?_
 refine wpIn_reg (l:=none) (K:=fun E1 s1=>E1 0 = .v (.func (.yield l) #[] #[])∧E1 1 = .rop [.sl 1 (64 * m) cs (.own t e)]∧E1 2 = .rop [.v (.int .i64 64)]∧E1 4 = .v (.int .i64 0)∧s1 = S 0) ?_ hent ?_
 ·simp only [↓DN,Qa,Qb,Qc,Qd,Qe,Qf,Qg,Qh,reduceCtorEq,↓reduceIte,Na,Nb,Nc,Nk,Nf,Ng,Nh,Za,Zb,Zc,TT]
 ·rintro G0 E0 s0 a0 w0 hle0 hr0 ⟨e0,e1,e2,e4,rfl⟩
  refine wpIn_block ?_
  refine wpIn_loop (fun a w=>∃ (i : Nat) (G1 : Gh) (E1 : Env),i≤m∧G.le G1∧Rel Γ 31 G1 E1 (S i) a w∧E1 0 = .v (.func (.yield l) #[] #[])∧E1 1 = .rop [.sl 1 (64 * m) cs (.own t e)]∧E1 2 = .rop [.v (.int .i64 64)]∧E1 4 = .v (.int .i64 ((64 * i : Nat) : Int)))
   (fun a _=>match a.tmps.getD 4 undef with | .int _ x=>64 * m - x.toNat | _=>0) ⟨0,G0,E0,Nat.zero_le _,hle0,hr0,e0,e1,e2,e4⟩ ?_
  rintro a w ⟨i,G1,E1,hi,hle,hr,e0,e1,e2,e4⟩
  have hmu : a.tmps.getD 4 undef = .int .i64 ((64 * i : Nat) : Int):=by
   have:=hr.tmps 4
   rw [e4] at this
   simpa only [VRel] using this
  refine wpIn_seq ?_
  by_cases hi' : i < m
  ·have hlt : ((64 * i : Nat) : Int) < ((64 * m : Nat) : Int):=by omega
   refine AWp.wide (Q:=fun x E' s'=>x = .normal∧s' = S i∧E' 0 = .v (.func (.yield l) #[] #[])∧E' 1 = .rop [.sl 1 (64 * m) cs (.own t e)]∧E' 2 = .rop [.v (.int .i64 64)]∧E' 4 = .v (.int .i64 ((64 * i : Nat) : Int))) ?_ hr ?_
   ·refine jB (Ai @e1 (Ai @e4 (decide_eq_true hlt))) ?_
    refine jE ?_
    refine awp_skip ?_
    simp only [upd,e0,e1,e2,e4,Nc,↓reduceIte,and_self]
   ·rintro x G2 E2 s2 a2 w2 hle2 hr2 ⟨rfl,rfl,f0,f1,f2,f4⟩
    refine wpIn_seq (wpIn_block (wpIn_seq ?_))
    have h0 : (0 : Int)≤((64 * i : Nat) : Int):=by omega
    have hle3 : ((64 * i : Nat) : Int)≤((64 * m : Nat) : Int):=by omega
    refine AWp.wide (Q:=fun x E' s'=>x = .normal∧s' = S i∧E' 0 = .v (.func (.yield l) #[] #[])∧E' 1 = .rop [.sl 1 (64 * m) cs (.own t e)]∧E' 2 = .rop [.v (.int .i64 64)]∧E' 4 = .v (.int .i64 ((64 * i : Nat) : Int))∧E' 5 = .v (.int .i64 64)) ?_ hr2 ?_
    ·have hmin : ¬ (((64 * m - 64 * i : Nat) : Int) < 64):=by omega
     refine awp_drw_end T.mixed [] (by kernel_rfl) ?_
     intro K hK
     refine jV (Ai @f1 (Ai @f2 (Ai @f4 (Ai @h0 (Ai @hle3 (Ai @Int.le_refl @hmin)))))) hK ?_;clear hK K
     simp only [upd,f0,f1,f2,f4,Nc,↓reduceIte,and_self]
    ·rintro x G3 E3 s3 a3 w3 hle3' hr3 ⟨rfl,rfl,g0,g1,g2,g4,g5⟩
     refine wpIn_seq ?_
     have hadd : iadd .i64 ((64 * i : Nat) : Int) 64 = ((64 * i + 64 : Nat) : Int):=i64_add (64 * i) 64 (by omega)
     have hlo : ((64 * i : Nat) : Int)≤((64 * i + 64 : Nat) : Int):=by omega
     have hhi : ((64 * i + 64 : Nat) : Int)≤((64 * m : Nat) : Int):=by omega
     refine wpIn_reg_yield12 (l:=l)
      (K1:=fun E' s'=>s' = S i∧E' 0 = .v (.func (.yield l) #[] #[])∧E' 1 = .rop [.sl 1 (64 * m) cs (.own t e)]∧E' 2 = .rop [.v (.int .i64 64)]∧E' 4 = .v (.int .i64 ((64 * i : Nat) : Int))∧E' 28 = chunkV cs i)
      (K2:=fun E' s'=>s' = S (i + 1)∧E' 0 = .v (.func (.yield l) #[] #[])∧E' 1 = .rop [.sl 1 (64 * m) cs (.own t e)]∧E' 2 = .rop [.v (.int .i64 64)]∧E' 4 = .v (.int .i64 ((64 * i : Nat) : Int))∧E' 30 = .v (.bool false))
      rfl rfl (by decide) ?_ hr3 ?_ ?_
     ·intro ops
      simp only [↓DN,Qa,Qb,Qc,Qd,Qe,Qf,Qg,Qh,reduceCtorEq,↓reduceIte,Na,Nb,Nc,Nk,Nf,Ng,Nh,Za,Zb,Zc,TT,g0,g1,g2,g4,g5,hadd,h0,hlo,hhi]
      rw [chunkV,show 64 * i + 64 - 64 * i = 64 by omega]
     ·rintro ops G4 E4 s4 a4 w4 hle4 hr4 ⟨rfl,k0,k1,k2,k4,k28⟩
      have hu:=hr4.tmps 28
      rw [k28] at hu
      obtain ⟨fn,tmps,assign,body,q1,q2⟩:=hy i (chunkV cs i) G4 (a4.tmps.getD 28 undef) w4 (by simp [hi']) (hle.trans (hle2.trans (hle3'.trans hle4))) hr4.st hu
      refine ⟨fn,tmps,assign,body,q1,RoundIn.mono (F:=Fence.wide) q2 ?_⟩
      rintro e' W' ⟨rfl,G5,b1,b2⟩
      refine ⟨rfl,G5,S (i + 1),b1,b2,?_⟩
      simp only [↓DN,Qa,Qb,Qc,Qd,Qe,Qf,Qg,Qh,reduceCtorEq,↓reduceIte,Na,Nb,Nc,Nk,Nf,Ng,Nh,Za,Zb,Zc,TT]
      simp only [upd,k0,k1,k2,k4,Nc,↓reduceIte,and_self]
     ·rintro G4 E4 s4 a4 w4 hle4 hr4 ⟨rfl,k0,k1,k2,k4,k30⟩
      show Code.wpIn Fence.wide 0 _ (Code.cond _ _ _) _ a4 w4
      refine AWp.wide (Q:=fun x E' s'=>x = .normal∧s' = S (i + 1)∧E' 0 = .v (.func (.yield l) #[] #[])∧E' 1 = .rop [.sl 1 (64 * m) cs (.own t e)]∧E' 2 = .rop [.v (.int .i64 64)]∧E' 4 = .v (.int .i64 ((64 * i : Nat) : Int))) ?_ hr4 ?_
      ·refine awp_cond_false k30 (awp_skip ?_)
       simp only [k0,k1,k2,k4,and_self]
      ·rintro x G5 E5 s5 a5 w5 hle5 hr5 ⟨rfl,rfl,q0,q1,q2,q4⟩
       show Code.wpIn Fence.wide 0 _ (Code.region _ _ _) _ a5 w5
       refine wpIn_reg (l:=none) (K:=fun E' s'=>s' = S (i + 1)∧E' 0 = .v (.func (.yield l) #[] #[])∧E' 1 = .rop [.sl 1 (64 * m) cs (.own t e)]∧E' 2 = .rop [.v (.int .i64 64)]∧E' 4 = .v (.int .i64 ((64 * (i + 1) : Nat) : Int))) ?_ hr5 ?_
       ·simp only [↓DN,Qa,Qb,Qc,Qd,Qe,Qf,Qg,Qh,reduceCtorEq,↓reduceIte,Na,Nb,Nc,Nk,Nf,Ng,Nh,Za,Zb,Zc,TT,q0,q1,q2,q4,hadd]
        rfl
       ·rintro G6 E6 s6 a6 w6 hle6 hr6 ⟨rfl,p0,p1,p2,p4⟩
        refine ⟨⟨i + 1,G6,E6,hi',hle.trans (hle2.trans (hle3'.trans (hle4.trans (hle5.trans hle6)))),hr6,p0,p1,p2,p4⟩,?_⟩
        have:=hr6.tmps 4
        rw [p4] at this
        simp only [VRel] at this
        rw [this,hmu]
        simp only [Int.toNat_natCast]
        omega
  ·obtain rfl : i = m:=by omega
   have hlt : ¬ ((64 * i : Nat) : Int) < ((64 * i : Nat) : Int):=by omega
   refine AWp.wide (Q:=fun x E' s'=>x = .exit 0∧s' = S i) ?_ hr ?_
   ·refine jB (Ai @e1 (Ai @e4 (decide_eq_false hlt))) ?_
    refine jF ?_
    refine awp_exit ?_
    exact ⟨rfl,rfl⟩
   ·rintro x G2 E2 s2 a2 w2 hle2 hr2 ⟨rfl,rfl⟩
    refine ⟨hr2.defers.trans (hle2.df.trans (hle.df.trans hdf)),.tuple #[],?_,⟨_,rfl⟩,G2,hle.trans hle2,by simpa using hr2.st⟩
    rw [results_eq,Tryz.results231]
    simp
end Go.Proofs.YtfjlmkifiihgkaaGreatDoor
namespace Go.Proofs.YtfjlmkifiihgkaaGreatDoor
open Go Go.AM Go.Proofs
variable {Γ : Nat→List AV}
theorem chunk_calls (cs : List AV) (n t e : Nat) (s : AS) :
  ACalls Tryz.prog Γ 172 [.sl 1 n cs (.own t e),.v (.int .i64 64)] s (fun r s'=>r = .clo 231 [.rop [.sl 1 n cs (.own t e)],.rop [.v (.int .i64 64)]]∧s' = s):=by
 refine acalls_body Tryz.func172 rfl Tryz.ntmps172 Tryz.results172 (by simp) ?_
 refine awp_reg_frz2 2 3 (by decide) (by decide) (by decide) ?_
 intro K hK
 simp only [↓DM,pval,DX,Nz,↓DN,Qa,Qb,Qc,Qd,Qe,Qf,Qg,Qh,reduceCtorEq,↓reduceIte,Na,Nb,Nc,Nk,Nf,Ng,Nh,Za,Zb,Zc,TT]
 intro o1 h1 o2 h2
 refine hK _ _ o1 o2 _ _ (by simp only [upd,Nc,↓reduceIte]) (by simp only [upd,Nc,↓reduceIte]) h1 (by rw [AS.set_objs_eq]; exact h2) ?_
 clear hK K
 refine wK fun K hK=>?_
 refine jA ?_
 refine jF ?_
 refine awp_skip ?_
 refine hK _ _ ?_;clear hK K
 refine jA ?_
 exact jJ
theorem chunk_blk (l : List UInt8) (i : Nat) (h : 64 * (i + 1)≤l.length) : chunkV (l.map byteV) i = .sl 1 64 ((Sha.blk l i).map byteV) .full∧(Sha.blk l i).length = 64:=by
 have e1 : Sha.blk l i = List.drop (64 * i) (List.take (64 * i + 64) l):=by
  rw [Sha.blk,List.drop_take]
  congr 1
  omega
 constructor
 ·rw [chunkV,e1]
  simp only [List.map_drop,List.map_take]
 ·simp only [Sha.blk,List.length_take,List.length_drop]
  omega
def outB (t : Sha.St) (i : Nat) : List UInt8:=((t.list.take i).map Sha.be).flatten
theorem outB_succ (t : Sha.St) (i : Nat) (h : i < 8) : outB t i ++ Sha.be (t.list.getD i 0) = outB t (i + 1):=by
 rcases at8 h with rfl | rfl | rfl | rfl | rfl | rfl | rfl | rfl <;> rfl
theorem rep4 (x : AV) : List.replicate 4 x = [x,x,x,x]:=rfl
theorem outB_full (t : Sha.St) : outB t 8 = t.bytes:=rfl
theorem outB_len (t : Sha.St) (i : Nat) (h : i≤8) : (outB t i).length = 4 * i:=by
 rcases Nat.lt_or_ge i 8 with h' | h'
 ·rcases at8 h' with rfl | rfl | rfl | rfl | rfl | rfl | rfl | rfl <;> rfl
 ·obtain rfl : i = 8:=by omega
  rfl
theorem stC_get (t : Sha.St) (i : Nat) (h : i < 8) : (stC t)[i]? = some (wV (t.list.getD i 0)):=by
 rcases at8 h with rfl | rfl | rfl | rfl | rfl | rfl | rfl | rfl <;> rfl
theorem sum_calls (hG0 : Γ 0 = stC Sha.H0) (hG : Γ 1 = Sha.K.map wV) (ls : List (List UInt8)) (sp : Sp) (hn : ls.length≤2 ^ 40) (hl : ls.flatten.length≤2 ^ 40) (s : AS) :
  ACalls Tryz.prog Γ 94 [.sl 1 ls.length (PartsB ls) sp] s (fun r s'=>OutS s (Sha.sum ls.flatten) r s'):=by
 generalize hfl : ls.flatten = l at *
 have hf:=Tryz.func94
 refine acalls_of_range hf rfl (by rw [Tryz.ntmps94]; simp) ?_
 rw [Tryz.ntmps94]
 intro G a w hdf hr
 refine wpIn_seq ?_
 refine wpIn_reg (l:=none) (K:=fun E' s'=>s' = s∧E' 0 = .sl 1 ls.length (PartsB ls) sp) ?_ hr ?_
 ·simp only [↓DN,Qa,Qb,Qc,Qd,Qe,Qf,Qg,Qh,reduceCtorEq,↓reduceIte,Na,Nb,Nc,Nk,Nf,Ng,Nh,Za,Zb,Zc,TT]
 ·rintro G1 E1 s1 a1 w1 hle1 hr1 ⟨rfl,e0⟩
  refine wpIn_seq ?_
  refine wpIn_reg (l:=none) (K:=fun E' s'=>∃ o3,s1.objs o3 = none∧s' = s1.set o3 (stC Sha.H0)∧E' 0 = .sl 1 ls.length (PartsB ls) sp∧E' 3 = .ptr o3 0) ?_ hr1 ?_
  ·simp only [↓DN,Qa,Qb,Qc,Qd,Qe,Qf,Qg,Qh,reduceCtorEq,↓reduceIte,Na,Nb,Nc,Nk,Nf,Ng,Nh,Za,Zb,Zc,TT,hG0]
   intro o ho
   exact ⟨o,ho,rfl,e0,rfl⟩
  ·rintro G2 E2 s2 a2 w2 hle2 hr2 ⟨o3,ho3,rfl,f0,f3⟩
   refine wpIn_seq (wpIn_seq ?_)
   have hpl:=Sha.pad_length l
   have hpm:=Sha.pad_mod l
   obtain ⟨m,hm⟩ : ∃ m,(Sha.pad l).length = 64 * m:=⟨(Sha.pad l).length / 64,by omega⟩
   have hz : Sha.zeros l.length < 64:=by rw [Sha.zeros]; omega
   refine wpIn_reg (l:=none) (K:=fun E' s'=>∃ t e,(s1.set o3 (stC Sha.H0)).le s'∧E' 3 = .ptr o3 0∧E' 12 = .clo 231 [.rop [.sl 1 (64 * m) ((Sha.pad l).map byteV) (.own t e)],.rop [.v (.int .i64 64)]]) ?_ hr2 ?_
   ·simp only [↓DN,Qa,Qb,Qc,Qd,Qe,Qf,Qg,Qh,reduceCtorEq,↓reduceIte,Na,Nb,Nc,Nk,Nf,Ng,Nh,Za,Zb,Zc,TT,f0]
    refine acallk (concat_calls ls sp (by omega) (by rw [hfl]; omega) _) ?_
    intro r sa hout
    rw [hfl] at hout
    simp only [↓DN,Qa,Qb,Qc,Qd,Qe,Qf,Qg,Qh,reduceCtorEq,↓reduceIte,Na,Nb,Nc,Nk,Nf,Ng,Nh,Za,Zb,Zc,TT]
    refine acallk (padded_calls l (by omega) _ _ _ hout) ?_
    intro r sb hout
    obtain ⟨t,e,hr0⟩:=outS_own hout (by rw [← List.length_pos_iff]; omega)
    rw [hr0,hm] at *
    simp only [↓DN,Qa,Qb,Qc,Qd,Qe,Qf,Qg,Qh,reduceCtorEq,↓reduceIte,Na,Nb,Nc,Nk,Nf,Ng,Nh,Za,Zb,Zc,TT]
    refine acallk (chunk_calls _ _ t e _) ?_
    rintro r sc ⟨rfl,rfl⟩
    simp only [↓DN,Qa,Qb,Qc,Qd,Qe,Qf,Qg,Qh,reduceCtorEq,↓reduceIte,Na,Nb,Nc,Nk,Nf,Ng,Nh,Za,Zb,Zc,TT]
    exact ⟨t,e,hout.1,f3,rfl⟩
   ·rintro G3 E3 s3 a3 w3 hle3 hr3 ⟨t,e,hse,g3,g12⟩
    refine wpIn_block ?_
    have hle03 : G.le G3:=hle1.trans (hle2.trans hle3)
    have hdf3 : G3.df = []:=hle03.df.trans hdf
    have hoc : s3.objs o3 = some (stC Sha.H0):=hse.objs _ _ (AS.set_objs_same _ _ _)
    have hm40 : m≤2 ^ 40:=by omega
    refine wpIn_mono (wpIn_range_rel (p:=13) (g:=.tmp 12) hr3 hdf3 g12 (by kernel_rfl) (chunk1_iter ((Sha.pad l).map byteV) t e m (by simpa using hm) hm40) (by decide) (fun i=>s3.set o3 (stC (Sha.hash (Sha.pad l) i))) (AS.set_self hoc) (fun x=>upd (upd E3 13 x) 4 x) ?_ ?_) ?_
    ·rintro lp i x G4 a4 W hx hr4
     refine wpIn_reg (l:=some lp) (K:=fun E' s'=>E' = upd (upd E3 13 x) 4 x∧s' = s3.set o3 (stC (Sha.hash (Sha.pad l) i))) ?_ hr4 ?_
     ·simp only [↓DN,Qa,Qb,Qc,Qd,Qe,Qf,Qg,Qh,reduceCtorEq,↓reduceIte,Na,Nb,Nc,Nk,Nf,Ng,Nh,Za,Zb,Zc,TT]
     ·rintro G5 E5 s5 a5 w5 hle5 hr5 ⟨rfl,rfl⟩
      exact ⟨rfl,G5,hle5,hr5⟩
    ·rintro lp i x G4 a4 W hx hr4
     refine wpIn_block ?_
     have hi : i < m:=by
      have:=(List.getElem?_eq_some_iff.1 hx).1
      simpa using this
     obtain rfl : chunkV ((Sha.pad l).map byteV) i = x:=by simpa [hi] using hx
     obtain ⟨hcv,hcl⟩:=chunk_blk (Sha.pad l) i (by omega)
     refine wpIn_reg (l:=some lp) (K:=fun E' s'=>s' = s3.set o3 (stC (Sha.hash (Sha.pad l) (i + 1)))) ?_ hr4 ?_
     ·simp only [↓DN,Qa,Qb,Qc,Qd,Qe,Qf,Qg,Qh,reduceCtorEq,↓reduceIte,Na,Nb,Nc,Nk,Nf,Ng,Nh,Za,Zb,Zc,TT,g3]
      rw [hcv]
      have hmx:=mix_calls hG (Sha.hash (Sha.pad l) i) (Sha.hash_ok _ i) (Sha.blk (Sha.pad l) i) hcl (s3.set o3 (stC (Sha.hash (Sha.pad l) i)))
      rw [bytesV,hcl] at hmx
      refine acallk (ACalls.weaks (.cons (.refl _) (.cons AV.weak_any .nil)) hmx) ?_
      rintro r sd ⟨rfl,rfl⟩
      simp only [↓DN,Qa,Qb,Qc,Qd,Qe,Qf,Qg,Qh,reduceCtorEq,↓reduceIte,Na,Nb,Nc,Nk,Nf,Ng,Nh,Za,Zb,Zc,TT,g3]
      rfl
     ·rintro G5 E5 s5 a5 w5 hle5 hr5 rfl
      exact ⟨rfl,G5,hle5,hr5.st⟩
    ·rintro x a4 w4 ⟨rfl,D,G4,hle4,hD,hDk,rfl,hs4⟩
     have hxl : ((List.range m).map (chunkV ((Sha.pad l).map byteV))).length = m:=by simp
     rw [hxl] at hs4
     obtain ⟨u,hu⟩ : ∃ u,u = Sha.hash (Sha.pad l) m:=⟨_,rfl⟩
     have hbytes : u.bytes = Sha.sum l:=by rw [hu,Sha.sum,hm,Nat.mul_div_cancel_left _ (by decide)]
     rw [← hu] at hs4
     have hle1' : s1.le (s3.set o3 (stC u)):=by
      refine AS.le_set (AS.le.trans ?_ hse) ho3 _
      exact AS.le_set (AS.le.refl s1) ho3 _
     have ho4 : (s3.set o3 (stC u)).objs o3 = some (stC u):=AS.set_objs_same _ _ _
     obtain ⟨s4,hs4e⟩ : ∃ s4,s4 = s3.set o3 (stC u):=⟨_,rfl⟩
     rw [← hs4e] at hs4 hle1' ho4
     show Code.wpIn Fence.wide 0 _ _ _ _ w4
     refine AWp.behind (Q:=retQ Tryz.prog Tryz.f94.results.toList (fun r s'=>OutS s1 (Sha.sum l) r s')) hr3 hle4 hDk hs4 hdf3 ?_ ?_
     ·refine jA ?_
      refine wK fun K hK=>?_
      refine jB (Ai @g3 @ho4) ?_
      refine awp_block ?_
      obtain ⟨Z0,hZ0⟩ : ∃ Z0,Z0 = stC u:=⟨_,rfl⟩
      refine awp_loop (fun E s2=>∃ i : Nat,i≤8∧E 17 = .agg Z0∧E 18 = .v (.int .i64 i)∧OutS s1 (outB u i) (E 5) s2)
       (fun E _=>match E 18 with | .v (.int _ i)=>8 - i.toNat | _=>0) ?_ ?_
      ·exact ⟨0,by omega,by simp only [upd,Nc,↓reduceIte,hZ0],by simp only [upd,↓reduceIte]; rfl,hle1',.inl ⟨rfl,by simp only [upd,Nc,↓reduceIte]⟩⟩
      ·rintro E5 s5 ⟨i,hi,p17,p18,pout⟩ -
       by_cases hi' : i < 8
       ·have hi2 : (i : Int) < 8:=by omega
        have hi0 : (0 : Int)≤(i : Int):=by omega
        refine jB (Ai @p18 (decide_eq_true hi2)) ?_
        refine wK fun K2 hK2=>?_
        refine jE ?_
        refine awp_skip ?_
        refine hK2 _ _ ?_;clear hK2 K2
        refine wK fun K3 hK3=>?_
        refine awp_block ?_
        have hget:=stC_get u i hi'
        rw [← hZ0] at hget
        have hsucc:=outB_succ u i hi'
        have hol:=outB_len u i hi
        generalize u.list.getD i 0 = x at *
        have s24 : ishr .u32 (x : Int) 24 = ((x / 2 ^ 24 : Nat) : Int):=wshr x 24 (by decide)
        have s16 : ishr .u32 (x : Int) 16 = ((x / 2 ^ 16 : Nat) : Int):=wshr x 16 (by decide)
        have s8 : ishr .u32 (x : Int) 8 = ((x / 2 ^ 8 : Nat) : Int):=wshr x 8 (by decide)
        refine jB (Ai @p17 (Ai @p18 (Ai @hi0 (Ai @hi2 (Ai @c8 @hget))))) ?_
        generalize hr6 : E5 5 = r6 at pout
        refine jU (Ai @hr6 (Ai @s24 (Ai @s16 (Ai @s8 @rep4)))) fun K hK=>?_
        refine aappend_out (ds:=Sha.be x) pout rfl (by simp only [Sha.be,List.map_cons,List.map_nil,byte_of]) T.c5 T.b5 (by rw [hol]; simp only [Sha.be,List.length_cons,List.length_nil]; omega) ?_
        intro r2 s6 h6
        rw [hsucc] at h6
        refine hK _ _ ?_
        clear hK
        simp only [thenQ,blockQ,if_true,if_false]
        refine hK3 _ _ ?_;clear hK3 K3
        refine jD (Ai @p18 (w_succ i (by omega))) ?_
        refine ⟨⟨i + 1,by omega,by simp only [upd,p17,Nc,↓reduceIte],by simp only [upd,↓reduceIte],by simpa only [upd,Nc,↓reduceIte] using h6⟩,?_⟩
        simp only [p18,upd,↓reduceIte]
        omega
       ·have hi2 : ¬ (i : Int) < 8:=by omega
        obtain rfl : i = 8:=by omega
        refine jB (Ai @p18 (decide_eq_false hi2)) ?_
        refine wK fun K2 hK2=>?_
        refine jF ?_
        refine awp_exit ?_
        simp only [thenQ,blockQ,if_true]
        clear hK2 K2
        refine hK _ _ ?_;clear hK K
        rw [outB_full,hbytes] at pout
        generalize hr6 : E5 5 = r6 at pout
        refine jB @hr6 ?_
        refine awp_ret ?_
        rw [Tryz.results94]
        simp only [retQ,AEnds,aresL,ares,List.toList_toArray,↓upd_same]; try simp only [UP,DF,Nc,↓reduceIte,DT]
        exact ⟨_,_,AV.weak.refl _,AS.le.refl _,pout⟩
     ·intro e5 G5 E5 s5 a5 w5 hle5 hD5 hdf5 hr5 hret
      refine ⟨?_,D,G5,E5,s5,hle03.trans hle5,?_,hD5,hdf5,hr5,?_⟩
      ·cases e5 <;> simp only [retQ] at hret <;> simp
      ·have q1:=hr3.st.below.size
       have q2:=hr3.st.base
       rw [hle03.w0] at q1
       rw [hle03.B] at q2
       exact ⟨Nat.le_trans q1 hD,Nat.le_trans q2 hD⟩
      ·cases e5 <;> simp only [retQ] at hret <;> exact hret
end Go.Proofs.YtfjlmkifiihgkaaGreatDoor
