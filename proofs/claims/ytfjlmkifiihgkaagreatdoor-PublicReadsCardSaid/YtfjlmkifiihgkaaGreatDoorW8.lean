/- Contracts of the program's functions, each walked once; the conditions stand in each theorem. -/
import Derived.Test.YtfjlmkifiihgkaaGreatDoorAMp6
import Derived.Test.YtfjlmkifiihgkaaGreatDoorW1
import Derived.Test.YtfjlmkifiihgkaaGreatDoorW7
import Derived.Test.YtfjlmkifiihgkaaGreatDoorW3
import Derived.Test.YtfjlmkifiihgkaaGreatDoorW6
import Derived.Test.YtfjlmkifiihgkaaGreatDoorW5
import Derived.Test.YtfjlmkifiihgkaaGreatDoorW4
import Derived.Test.YtfjlmkifiihgkaaGreatDoorW2
set_option linter.unusedSimpArgs false
set_option linter.unusedVariables false
open Nat renaming reduceLT → Na, reduceLeDiff → Nb, reduceEqDiff → Nc, reduceAdd → Nk, reduceMul → Nf, reducePow → Ng, reduceSub → Nh, reduceBEq → Nz
open Int renaming reduceLT → Za, reduceLE → Zb, reduceToNat → Zc
open And renaming intro → Ai
open Go.AM renaming ashift → Qa, aconv → Qb, aindexAddr → Qc, aindex → Qd, aslice → Qe, abuiltin → Qf, awp_reg_seq → wS, awp_reg_end → wE, awp_seq_k → wK, awp_cond_k → wC
open Go.AM.AV renaming cells → Qg, one → Qh
set_option maxRecDepth 100000
set_option maxHeartbeats 8000000
set_option autoImplicit false
namespace Go.Proofs.YtfjlmkifiihgkaaGreatDoor
open Go Go.AM Go.Proofs
variable {Γ : Nat→List AV}
theorem be32_or (a b c d : UInt8) : ior .u32 (ior .u32 (ior .u32 (ishl .u32 (iconv .u32 (a.toNat : Int)) 24) (ishl .u32 (iconv .u32 (b.toNat : Int)) 16)) (ishl .u32 (iconv .u32 (c.toNat : Int)) 8)) (iconv .u32 (d.toNat : Int)) = ((Sha.be32 a.toNat b.toNat c.toNat d.toNat : Nat) : Int):=by
 have ha:=a.toNat_lt; have hb:=b.toNat_lt; have hc:=c.toNat_lt; have hd:=d.toNat_lt
 have e1 : ∀ x : UInt8,iconv .u32 (x.toNat : Int) = ((x.toNat : Nat) : Int):=fun x=>by
  have:=x.toNat_lt
  rw [iconv_u rfl]
  simp only [IntKind.bits]
  congr 1
  omega
 have s24 : ∀ x : Nat,x < 256→ishl .u32 (x : Int) 24 = ((x * 16777216 : Nat) : Int):=fun x hx=>by
  have:=wshl x 24 (by decide)
  rw [show ((24 : Nat) : Int) = 24 from rfl] at this
  rw [this]
  congr 1
  simp only [Nat.reducePow]
  omega
 have s16 : ∀ x : Nat,x < 256→ishl .u32 (x : Int) 16 = ((x * 65536 : Nat) : Int):=fun x hx=>by
  have:=wshl x 16 (by decide)
  rw [show ((16 : Nat) : Int) = 16 from rfl] at this
  rw [this]
  congr 1
  simp only [Nat.reducePow]
  omega
 have s8 : ∀ x : Nat,x < 256→ishl .u32 (x : Int) 8 = ((x * 256 : Nat) : Int):=fun x hx=>by
  have:=wshl x 8 (by decide)
  rw [show ((8 : Nat) : Int) = 8 from rfl] at this
  rw [this]
  congr 1
  simp only [Nat.reducePow]
  omega
 rw [e1,e1,e1,e1]
 generalize a.toNat = a at *
 generalize b.toNat = b at *
 generalize c.toNat = c at *
 generalize d.toNat = d at *
 rw [s24 a ha,s16 b hb,s8 c hc]
 have o1 : a * 16777216 ||| b * 65536 = a * 16777216 + b * 65536:=by
  have:=Nat.shiftLeft_add_eq_or_of_lt (b:=b * 65536) (i:=24) (by simp only [Nat.reducePow]; omega) a
  rw [Nat.shiftLeft_eq] at this
  simp only [Nat.reducePow] at this
  exact this.symm
 have o2 : (a * 16777216 + b * 65536) ||| c * 256 = a * 16777216 + b * 65536 + c * 256:=by
  have:=Nat.shiftLeft_add_eq_or_of_lt (b:=c * 256) (i:=16) (by simp only [Nat.reducePow]; omega) (a * 256 + b)
  rw [Nat.shiftLeft_eq] at this
  simp only [Nat.reducePow] at this
  have e : (a * 256 + b) * 65536 = a * 16777216 + b * 65536:=by simp only [Nat.add_mul,Nat.mul_assoc,Nat.reduceMul]
  rw [e] at this
  exact this.symm
 have o3 : (a * 16777216 + b * 65536 + c * 256) ||| d = a * 16777216 + b * 65536 + c * 256 + d:=by
  have:=Nat.shiftLeft_add_eq_or_of_lt (b:=d) (i:=8) (by simp only [Nat.reducePow]; omega) (a * 65536 + b * 256 + c)
  rw [Nat.shiftLeft_eq] at this
  simp only [Nat.reducePow] at this
  have e : (a * 65536 + b * 256 + c) * 256 = a * 16777216 + b * 65536 + c * 256:=by simp only [Nat.add_mul,Nat.mul_assoc,Nat.reduceMul]
  rw [e] at this
  exact this.symm
 rw [wor _ _ (by omega) (by omega),o1,wor _ _ (by omega) (by omega),o2,wor _ _ (by omega) (by omega),o3,Sha.be32]
 simp only [Nat.add_mul,Nat.mul_assoc,Nat.reduceMul]
structure Kp (oh m : Nat) (pl : List UInt8) (sp : Sp) (i : Nat) (E : Env) : Prop where
 h3 : E 3 = .osl oh 0 1 8 8
 h4 : E 4 = .sl 1 64 (Sha.K.map wV) .no
 h5 : E 5 = .sl 1 (64 * m) (pl.map byteV) sp
 h6 : E 6 = .v (.int .i64 ((64 * i : Nat) : Int))
theorem Kp.upd {oh m i d : Nat} {pl : List UInt8} {sp : Sp} {E : Env} {v : AV} (h : Kp oh m pl sp i E) (hd : d≠3∧d≠4∧d≠5∧d≠6) : Kp oh m pl sp i (upd E d v) :=
 ⟨by rw [upd_ne _ _ (Ne.symm hd.1)]; exact h.h3,by rw [upd_ne _ _ (Ne.symm hd.2.1)]; exact h.h4,by rw [upd_ne _ _ (Ne.symm hd.2.2.1)]; exact h.h5,by rw [upd_ne _ _ (Ne.symm hd.2.2.2)]; exact h.h6⟩
structure Kq (ow : Nat) (E : Env) : Prop where
 h7 : E 7 = .osl ow 0 1 64 64
theorem Kq.upd {ow d : Nat} {E : Env} {v : AV} (h : Kq ow E) (hd : d≠7) : Kq ow (upd E d v):=⟨by rw [upd_ne _ _ (Ne.symm hd)]; exact h.h7⟩
structure Kr (cs : List AV) (sp : Sp) (E : Env) : Prop where
 h13 : E 13 = .sl 1 8 cs sp
theorem Kr.upd {cs : List AV} {sp : Sp} {d : Nat} {E : Env} {v : AV} (h : Kr cs sp E) (hd : d≠13) : Kr cs sp (upd E d v):=⟨by rw [upd_ne _ _ (Ne.symm hd)]; exact h.h13⟩
theorem bget (l : List UInt8) (i : Nat) (h : i < l.length) : List.take 1 (List.drop i (l.map byteV)) = [.v (.int .u8 ((l.getD i 0).toNat : Int))]:=by
 have : (l.map byteV)[i]? = some (byteV (l.getD i 0)):=by
  rw [List.getElem?_map,List.getElem?_eq_getElem h]
  simp only [Option.map_some,List.getD,List.getElem?_eq_getElem h,Option.getD_some]
 rw [drop_cons _ _ _ this]
 rfl
theorem bget' (l : List UInt8) (i : Nat) (h : i < l.length) : List.map byteV (List.take 1 (List.drop i l)) = [.v (.int .u8 ((l.getD i 0).toNat : Int))]:=by
 rw [List.map_take,List.map_drop]
 exact bget l i h
theorem blk_getD (l : List UInt8) (i j : Nat) (h : j < 64) (hl : 64 * i + j < l.length) : (Sha.blk l i).getD j 0 = l.getD (64 * i + j) 0:=by
 simp only [Sha.blk,List.getD_eq_getElem?_getD,List.getElem?_take,if_pos h,List.getElem?_drop]
theorem rep8 (x : AV) : List.replicate 8 x = [x,x,x,x,x,x,x,x]:=rfl
theorem wget (l : List Nat) (i : Nat) (h : i < l.length) : List.drop i (l.map wV) = wV (l.getD i 0) :: List.drop (i + 1) (l.map wV):=drop_cons _ _ _ (map_getD l i h)
theorem refSum_calls (l : List UInt8) (hl : l.length≤2 ^ 40) (s : AS) :
  ACalls Tryz.prog Γ 97 [.v (.string ⟨l.toArray⟩)] s (fun r s'=>r = .v (.string ⟨(Sha.sum l).toArray⟩)∧s' = s):=by
 refine acalls_body Tryz.func97 rfl Tryz.ntmps97 Tryz.results97 (by simp) ?_
 refine jA ?_
 refine awp_reg_mid0 rfl (by decide) (fun r s'=>∃ ob,s.objs ob = none∧r = .osl ob 0 (Tryz.prog.cellsOf 213) 8 8∧s' = s.set ob (stC Sha.H0)) (fun G a w hr=>?_) ?_
 ·exact lit_obj_res (cs:=stC Sha.H0) (e:=213) rfl Tryz.underlying222 T.z213 (by rw [T.c213]; decide) (by rw [T.c213]; decide) (by rw [T.c213]; rfl) (by simp only [T.c213]; rfl) hr.eval hr.st
 rw [T.c213]
 rintro r s1 ⟨oh,hoh,rfl,rfl⟩
 simp only [↓DM,pval,DX,Nz,↓DN,Qa,Qb,Qc,Qd,Qe,Qf,Qg,Qh,reduceCtorEq,↓reduceIte,Na,Nb,Nc,Nk,Nf,Ng,Nh,Za,Zb,Zc,TT]
 refine jK (refK_calls _) ?_;rintro s2 rfl
 refine jQ fun K hK=>?_
 refine acallk (octets_calls l (by omega) _) ?_
 intro r s1 hout
 have hpl:=Sha.pad_length l
 have hpm:=Sha.pad_mod l
 obtain ⟨m,hm⟩ : ∃ m,(Sha.pad l).length = 64 * m:=⟨(Sha.pad l).length / 64,by omega⟩
 have hz : Sha.zeros l.length < 64:=by rw [Sha.zeros]; omega
 have hm40 : 64 * m≤2 ^ 41:=by omega
 obtain ⟨tk,e,hr0⟩:=outS_own hout (by rw [← List.length_pos_iff]; omega)
 rw [hm] at hr0
 subst hr0
 have hle : s.le s1:=AS.le.trans (AS.le_set (AS.le.refl s) hoh _) hout.1
 have hobj : s1.objs oh = some (stC Sha.H0):=hout.1.objs _ _ (AS.set_objs_same _ _ _)
 clear hout
 refine jR hK ?_;clear hK K
 have hsum : (Sha.hash (Sha.pad l) m).bytes = Sha.sum l:=by rw [Sha.sum,hm,Nat.mul_div_cancel_left _ (by decide)]
 obtain ⟨pl,hpl0⟩ : ∃ pl,pl = Sha.pad l:=⟨_,rfl⟩
 rw [← hpl0] at hm hsum ⊢
 refine wK fun K hK=>?_
 refine jA ?_
 refine awp_block ?_
 refine awp_loop (fun E s2=>∃ i : Nat,i≤m∧Kp oh m pl (.own tk e) i E∧s2.objs oh = some (stC (Sha.hash pl i))∧s.le s2)
  (fun E _=>match E 6 with | .v (.int _ x)=>64 * m - x.toNat | _=>0) ?_ ?_
 ·exact ⟨0,Nat.zero_le _,⟨by simp only [upd,Nc,↓reduceIte],by simp only [upd,Nc,↓reduceIte],by simp only [upd,Nc,↓reduceIte],by simp only [upd,↓reduceIte]; rfl⟩,hobj,hle⟩
 ·rintro E1 s2 ⟨i,hi,hk,ho,hle⟩ -
  have e6:=hk.h6
  have hmu:=hk.h6
  refine wK fun K2 hK2=>?_
  by_cases hi' : i < m
  ·have hlt : ((64 * i : Nat) : Int) < ((64 * m : Nat) : Int):=by omega
   refine jB (Ai @e6 (Ai @hk.h5 (decide_eq_true hlt))) ?_
   refine jE ?_
   refine awp_skip ?_
   refine hK2 _ _ ?_;clear hK2 K2
   refine wK fun K3 hK3=>?_
   refine awp_block ?_
   have hcl : (Sha.blk pl i).length = 64:=(chunk_blk pl i (by omega)).2
   have hbg : ∀ j,j < 64→(Sha.blk pl i).getD j 0 = pl.getD (64 * i + j) 0:=fun j hj=>blk_getD pl i j hj (by omega)
   have hpg : ∀ j,j < 64 * m→List.map byteV (List.take 1 (List.drop j pl)) = [.v (.int .u8 ((pl.getD j 0).toNat : Int))]:=fun j hj=>bget' pl j (by omega)
   obtain ⟨c,hc⟩ : ∃ c,c = Sha.blk pl i:=⟨_,rfl⟩
   rw [← hc] at hcl hbg
   have hnx : Sha.hash pl (i + 1) = Sha.mix (Sha.hash pl i) c:=by rw [hc]; rfl
   have hst:=Sha.hash_ok pl i
   generalize hstd : Sha.hash pl i = st at *
   refine jQ fun K hK=>?_
   refine ⟨by decide,by decide,fun ow how=>?_⟩
   have hwh : ow≠oh:=fun e'=>by rw [e',ho] at how; cases how
   have hown : s.objs ow = none:=by
    cases hs : s.objs ow with
    | none=>rfl
    | some cs=>rw [hle.objs _ _ hs] at how; cases how
   refine hK _ _ ?_
   clear hK
   rw [show List.replicate 64 (AV.v (.int .u32 0)) = row c 0 from rfl]
   obtain ⟨E2,hE2⟩ : ∃ E2,E2 = (upd (upd (upd (upd (upd (upd E1 24 (AV.v (Value.int IntKind.i64 ((64 * i : Nat) : Int)))) 25 (AV.sl 1 (64 * m) (List.map byteV pl) (Sp.own tk e))) 26 (AV.v (Value.int IntKind.i64 ((64 * m : Nat) : Int)))) 27 (AV.v (Value.bool true))) 30 (AV.osl ow 0 1 64 64)) 7 (AV.osl ow 0 1 64 64)):=⟨_,rfl⟩
   have hk : Kp oh m pl (.own tk e) i E2:=by
    rw [hE2]
    repeat (first | exact hk | refine Kp.upd ?_ (by decide))
   have hq : Kq ow E2:=⟨by rw [hE2]; simp only [upd,↓reduceIte]⟩
   rw [← hE2]
   clear hE2 e6
   refine wK fun K4 hK4=>?_
   refine jA ?_
   refine awp_block ?_
   refine awp_loop (fun E s3=>∃ t : Nat,t≤16∧Kp oh m pl (.own tk e) i E∧Kq ow E∧E 8 = .v (.int .i64 t)∧s3.objs ow = some (row c t)∧s3.objs oh = some (stC st)∧s.le s3)
    (fun E _=>match E 8 with | .v (.int _ x)=>16 - x.toNat | _=>0) ?_ ?_
   ·exact ⟨0,by omega,(by repeat (first | exact hk | exact hq | refine Kp.upd ?_ (by decide) | refine Kq.upd ?_ (by decide))),(by repeat (first | exact hk | exact hq | refine Kp.upd ?_ (by decide) | refine Kq.upd ?_ (by decide))),by simp only [upd,↓reduceIte]; rfl,AS.set_objs_same _ _ _,by rw [AS.set_objs_ne _ hwh.symm]; exact ho,AS.le_set hle hown _⟩
   ·rintro E3 s3 ⟨t,ht,hk,hq,g8,jw,jh,hle3⟩ -
    refine wK fun K5 hK5=>?_
    by_cases ht' : t < 16
    ·have hlt : (t : Int) < 16:=by omega
     refine jB (Ai @g8 (decide_eq_true hlt)) ?_
     refine jE ?_
     refine awp_skip ?_
     refine hK5 _ _ ?_;clear hK5 K5
     refine wK fun K6 hK6=>?_
     refine awp_block ?_
     have a0 : iadd .i64 ((64 * i : Nat) : Int) ((4 * t : Nat) : Int) = ((64 * i + 4 * t : Nat) : Int):=i64_add _ _ (by omega)
     have a1 : iadd .i64 ((64 * i + 4 * t : Nat) : Int) 1 = ((64 * i + 4 * t + 1 : Nat) : Int):=i64_add _ 1 (by omega)
     have a2 : iadd .i64 ((64 * i + 4 * t : Nat) : Int) 2 = ((64 * i + 4 * t + 2 : Nat) : Int):=i64_add _ 2 (by omega)
     have a3 : iadd .i64 ((64 * i + 4 * t : Nat) : Int) 3 = ((64 * i + 4 * t + 3 : Nat) : Int):=i64_add _ 3 (by omega)
     have hword : Sha.word c (Sha.sch c t) t = Sha.be32 (pl.getD (64 * i + 4 * t) 0).toNat (pl.getD (64 * i + 4 * t + 1) 0).toNat (pl.getD (64 * i + 4 * t + 2) 0).toNat (pl.getD (64 * i + 4 * t + 3) 0).toNat:=by
      rw [Sha.word,if_pos ht',hbg _ (by omega),hbg _ (by omega),hbg _ (by omega),hbg _ (by omega)]
      rfl
     have hset:=row_set c t (by omega)
     rw [hword] at hset
     simp only [wV] at hset
     rw [← be32_or] at hset
     have p0:=hpg (64 * i + 4 * t) (by omega)
     have p1:=hpg (64 * i + 4 * t + 1) (by omega)
     have p2:=hpg (64 * i + 4 * t + 2) (by omega)
     have p3:=hpg (64 * i + 4 * t + 3) (by omega)
     have b0 : ((64 * i + 4 * t : Nat) : Int) < ((64 * m : Nat) : Int):=by omega
     have b1 : ((64 * i + 4 * t + 1 : Nat) : Int) < ((64 * m : Nat) : Int):=by omega
     have b2 : ((64 * i + 4 * t + 2 : Nat) : Int) < ((64 * m : Nat) : Int):=by omega
     have b3 : ((64 * i + 4 * t + 3 : Nat) : Int) < ((64 * m : Nat) : Int):=by omega
     have q0 : (0 : Int)≤((64 * i + 4 * t : Nat) : Int):=by omega
     have q1 : (0 : Int)≤((64 * i + 4 * t + 1 : Nat) : Int):=by omega
     have q2 : (0 : Int)≤((64 * i + 4 * t + 2 : Nat) : Int):=by omega
     have q3 : (0 : Int)≤((64 * i + 4 * t + 3 : Nat) : Int):=by omega
     have ht0 : (0 : Int)≤(t : Int):=by omega
     have ht64 : (t : Int) < ((64 : Nat) : Int):=by omega
     have hlen:=row_len c t (by omega)
     generalize pl.getD (64 * i + 4 * t) 0 = x0 at *
     generalize pl.getD (64 * i + 4 * t + 1) 0 = x1 at *
     generalize pl.getD (64 * i + 4 * t + 2) 0 = x2 at *
     generalize pl.getD (64 * i + 4 * t + 3) 0 = x3 at *
     obtain ⟨R,hR⟩ : ∃ R,R = row c t:=⟨_,rfl⟩
     rw [← hR] at hset hlen jw
     refine jB (Ai @hk.h6 (Ai @g8 (Ai (i64_mul4 t (by omega)) @a0))) ?_
     refine awp_drw_end T.mixed [32] (by kernel_rfl) ?_
     intro K hK
     simp only [↓DM,pval,DX,Nz,↓DN,Qa,Qb,Qc,Qd,Qe,Qf,Qg,Qh,reduceCtorEq,↓reduceIte,Na,Nb,Nc,Nk,Nf,Ng,Nh,Za,Zb,Zc,TT,hk.h5,hq.h7,g8,a1,a2,a3,q0,q1,q2,q3,b0,b1,b2,b3,p0,p1,p2,p3,ht0,ht64,jw,hset,hlen]
     refine ⟨by omega,hK _ _ ?_⟩
     clear hK
     simp only [thenQ,blockQ,if_true,if_false]
     refine hK6 _ _ ?_;clear hK6 K6
     refine jD (Ai @g8 (w_succ t (by omega))) ?_
     refine ⟨⟨t + 1,by omega,(by repeat (first | exact hk | exact hq | refine Kp.upd ?_ (by decide) | refine Kq.upd ?_ (by decide))),(by repeat (first | exact hk | exact hq | refine Kp.upd ?_ (by decide) | refine Kq.upd ?_ (by decide))),by simp only [upd,↓reduceIte],AS.set_objs_same _ _ _,by rw [AS.set_objs_ne _ hwh.symm]; exact jh,AS.le_set hle3 hown _⟩,?_⟩
     simp only [g8,upd,↓reduceIte]
     omega
    ·have hlt : ¬ (t : Int) < 16:=by omega
     obtain rfl : t = 16:=by omega
     refine jB (Ai @g8 (decide_eq_false hlt)) ?_
     refine jF ?_
     refine awp_exit ?_
     simp only [thenQ,blockQ,if_true]
     clear hK5 K5
     refine hK4 _ _ ?_;clear hK4 K4
     have hk : Kp oh m pl (.own tk e) i (upd (upd E3 31 (AV.v (.int .i64 ((16 : Nat) : Int)))) 32 (AV.v (.bool false))):=(by repeat (first | exact hk | exact hq | refine Kp.upd ?_ (by decide) | refine Kq.upd ?_ (by decide)))
     have hq : Kq ow (upd (upd E3 31 (AV.v (.int .i64 ((16 : Nat) : Int)))) 32 (AV.v (.bool false))):=(by repeat (first | exact hk | exact hq | refine Kp.upd ?_ (by decide) | refine Kq.upd ?_ (by decide)))
     generalize (upd (upd E3 31 (AV.v (.int .i64 ((16 : Nat) : Int)))) 32 (AV.v (.bool false))) = E4 at *
     clear g8
     refine wK fun K4 hK4=>?_
     refine jA ?_
     refine awp_block ?_
     refine awp_loop (fun E s3=>∃ t : Nat,16≤t∧t≤64∧Kp oh m pl (.own tk e) i E∧Kq ow E∧E 10 = .v (.int .i64 t)∧s3.objs ow = some (row c t)∧s3.objs oh = some (stC st)∧s.le s3)
      (fun E _=>match E 10 with | .v (.int _ x)=>64 - x.toNat | _=>0) ?_ ?_
     ·exact ⟨16,by omega,by omega,(by repeat (first | exact hk | exact hq | refine Kp.upd ?_ (by decide) | refine Kq.upd ?_ (by decide))),(by repeat (first | exact hk | exact hq | refine Kp.upd ?_ (by decide) | refine Kq.upd ?_ (by decide))),by simp only [upd,↓reduceIte]; rfl,jw,jh,hle3⟩
     ·rintro E5 s4 ⟨t,ht,ht2,hk,hq,g10,jw,jh,hle4⟩ -
      refine wK fun K5 hK5=>?_
      by_cases ht' : t < 64
      ·have hlt : (t : Int) < 64:=by omega
       refine jB (Ai @g10 (decide_eq_true hlt)) ?_
       refine jE ?_
       refine awp_skip ?_
       refine hK5 _ _ ?_;clear hK5 K5
       refine wK fun K6 hK6=>?_
       refine awp_block ?_
       have ht0 : (0 : Int)≤(t : Int):=by omega
       have ht64 : (t : Int) < ((64 : Nat) : Int):=by omega
       have n2 : (0 : Int)≤((t - 2 : Nat) : Int):=by omega
       have n7 : (0 : Int)≤((t - 7 : Nat) : Int):=by omega
       have n15 : (0 : Int)≤((t - 15 : Nat) : Int):=by omega
       have n16 : (0 : Int)≤((t - 16 : Nat) : Int):=by omega
       have m2 : ((t - 2 : Nat) : Int) < ((64 : Nat) : Int):=by omega
       have m7 : ((t - 7 : Nat) : Int) < ((64 : Nat) : Int):=by omega
       have m15 : ((t - 15 : Nat) : Int) < ((64 : Nat) : Int):=by omega
       have m16 : ((t - 16 : Nat) : Int) < ((64 : Nat) : Int):=by omega
       have w2 : isub .i64 (t : Int) 2 = ((t - 2 : Nat) : Int):=i64_sub t 2 (by omega) (by omega)
       have w7 : isub .i64 (t : Int) 7 = ((t - 7 : Nat) : Int):=i64_sub t 7 (by omega) (by omega)
       have w15 : isub .i64 (t : Int) 15 = ((t - 15 : Nat) : Int):=i64_sub t 15 (by omega) (by omega)
       have w16 : isub .i64 (t : Int) 16 = ((t - 16 : Nat) : Int):=i64_sub t 16 (by omega) (by omega)
       have d2:=row_drop c t (t - 2) (by omega)
       have d7:=row_drop c t (t - 7) (by omega)
       have d15:=row_drop c t (t - 15) (by omega)
       have d16:=row_drop c t (t - 16) (by omega)
       have hw : Sha.word c (Sha.sch c t) t = Sha.add32 (Sha.add32 (Sha.add32 (Sha.sig2 ((Sha.sch c t).getD (t - 2) 0) 17 19 10) ((Sha.sch c t).getD (t - 7) 0)) (Sha.sig2 ((Sha.sch c t).getD (t - 15) 0) 7 18 3)) ((Sha.sch c t).getD (t - 16) 0):=by rw [Sha.word,if_neg (by omega)]
       have hset:=row_set c t ht'
       rw [hw] at hset
       have hlen:=row_len c t ht2
       have l2:=Sha.sch_getD_lt c t (t - 2)
       have l15:=Sha.sch_getD_lt c t (t - 15)
       generalize (Sha.sch c t).getD (t - 2) 0 = y at *
       generalize (Sha.sch c t).getD (t - 7) 0 = x7 at *
       generalize (Sha.sch c t).getD (t - 15) 0 = x at *
       generalize (Sha.sch c t).getD (t - 16) 0 = x16 at *
       obtain ⟨R,hR⟩ : ∃ R,R = row c t:=⟨_,rfl⟩
       rw [← hR] at d2 d7 d15 d16 hset hlen jw
       have y10 : ishr .u32 (y : Int) 10 = ((y / 2 ^ 10 : Nat) : Int):=wshr y 10 (by decide)
       have x3 : ishr .u32 (x : Int) 3 = ((x / 2 ^ 3 : Nat) : Int):=wshr x 3 (by decide)
       have v1:=wxor _ _ (Sha.rotr_lt 17 l2) (Sha.rotr_lt 19 l2)
       have v2:=wxor _ _ (Nat.xor_lt_two_pow (n:=32) (Sha.rotr_lt 17 l2) (Sha.rotr_lt 19 l2)) (Nat.lt_of_le_of_lt (Nat.div_le_self y (2 ^ 10)) l2)
       have v3:=wxor _ _ (Sha.rotr_lt 7 l15) (Sha.rotr_lt 18 l15)
       have v4:=wxor _ _ (Nat.xor_lt_two_pow (n:=32) (Sha.rotr_lt 7 l15) (Sha.rotr_lt 18 l15)) (Nat.lt_of_le_of_lt (Nat.div_le_self x (2 ^ 3)) l15)
       have u1 : (Sha.rotr y 17 ^^^ Sha.rotr y 19) ^^^ (y / 2 ^ 10) = Sha.sig2 y 17 19 10:=rfl
       have u2 : (Sha.rotr x 7 ^^^ Sha.rotr x 18) ^^^ (x / 2 ^ 3) = Sha.sig2 x 7 18 3:=rfl
       rw [u1] at v2
       rw [u2] at v4
       simp only [Nat.reducePow] at y10 x3 v2 v4
       refine awp_mrk_seq T.mixed [(ow,R)] [] [4,9] [] (by kernel_rfl) (by simp only [Pres_cons,Pres_nil,and_true]; simp [AS.set,upd,jw]) ?_
       intro K hK
       simp only [↓AXr_nil,↓AXr_cons,gval,lval,fzGet_cons,fzGet_nil,Pres_cons,Pres_nil,List.any_cons,List.any_nil,List.contains_cons,List.contains_nil,Nat.reduceBEq,Bool.or_false,Bool.or_true,Bool.or_self,Bool.false_or,↓DN,Qa,Qb,Qc,Qd,Qe,Qf,Qg,Qh,reduceCtorEq,↓reduceIte,Na,Nb,Nc,Nk,Nf,Ng,Nh,Za,Zb,Zc,TT,hq.h7,g10,w2,w15,n2,n15,m2,m15,d2,d15,jw]
       refine hK _ _ ?_;clear hK K
       refine awp_mrk_end T.mixed [(ow,R)] [3,5,17,19] [14,29] [32] (by kernel_rfl) (by simp only [Pres_cons,Pres_nil,and_true]; simp [AS.set,upd,jw]) ?_
       intro K hK
       simp only [↓AXr_nil,↓AXr_cons,gval,lval,fzGet_cons,fzGet_nil,Pres_cons,Pres_nil,List.any_cons,List.any_nil,List.contains_cons,List.contains_nil,Nat.reduceBEq,Bool.or_false,Bool.or_true,Bool.or_self,Bool.false_or,↓DN,Qa,Qb,Qc,Qd,Qe,Qf,Qg,Qh,reduceCtorEq,↓reduceIte,Na,Nb,Nc,Nk,Nf,Ng,Nh,Za,Zb,Zc,TT,hq.h7,g10,w7,w16,n7,n16,m7,m16,d7,d16,jw]
       refine acallk (right_calls y 17 l2 (by omega) (by omega) _) ?_
       rintro r sa ⟨rfl,rfl⟩
       simp only [↓AXq_nil,↓AXq_cons,pval,↓AXr_nil,↓AXr_cons,gval,lval,fzGet_cons,fzGet_nil,Pres_cons,Pres_nil,List.any_cons,List.any_nil,DX,Nat.reduceBEq,↓DN,Qa,Qb,Qc,Qd,Qe,Qf,Qg,Qh,reduceCtorEq,↓reduceIte,Na,Nb,Nc,Nk,Nf,Ng,Nh,Za,Zb,Zc,TT,hq.h7,g10,w7,w16,n7,n16,m7,m16,d7,d16,jw]
       refine acallk (right_calls y 19 l2 (by omega) (by omega) _) ?_
       rintro r sb ⟨rfl,rfl⟩
       simp only [↓AXq_nil,↓AXq_cons,pval,↓AXr_nil,↓AXr_cons,gval,lval,fzGet_cons,fzGet_nil,Pres_cons,Pres_nil,List.any_cons,List.any_nil,DX,Nat.reduceBEq,↓DN,Qa,Qb,Qc,Qd,Qe,Qf,Qg,Qh,reduceCtorEq,↓reduceIte,Na,Nb,Nc,Nk,Nf,Ng,Nh,Za,Zb,Zc,TT,hq.h7,g10,w7,w16,n7,n16,m7,m16,d7,d16,jw,y10,v1,v2,wadd]
       refine acallk (right_calls x 7 l15 (by omega) (by omega) _) ?_
       rintro r sc ⟨rfl,rfl⟩
       simp only [↓AXq_nil,↓AXq_cons,pval,↓AXr_nil,↓AXr_cons,gval,lval,fzGet_cons,fzGet_nil,Pres_cons,Pres_nil,List.any_cons,List.any_nil,DX,Nat.reduceBEq,↓DN,Qa,Qb,Qc,Qd,Qe,Qf,Qg,Qh,reduceCtorEq,↓reduceIte,Na,Nb,Nc,Nk,Nf,Ng,Nh,Za,Zb,Zc,TT,hq.h7,g10,w7,w16,n7,n16,m7,m16,d7,d16,jw,y10,v1,v2,wadd]
       refine acallk (right_calls x 18 l15 (by omega) (by omega) _) ?_
       rintro r sd ⟨rfl,rfl⟩
       simp only [↓AXq_nil,↓AXq_cons,pval,↓AXr_nil,↓AXr_cons,gval,lval,fzGet_cons,fzGet_nil,Pres_cons,Pres_nil,List.any_cons,List.any_nil,DX,Nat.reduceBEq,↓DN,Qa,Qb,Qc,Qd,Qe,Qf,Qg,Qh,reduceCtorEq,↓reduceIte,Na,Nb,Nc,Nk,Nf,Ng,Nh,Za,Zb,Zc,TT,hq.h7,g10,w7,w16,n7,n16,m7,m16,d7,d16,jw,x3,v3,v4,wadd,ht0,ht64,hset,hlen]
       refine ⟨by omega,hK _ _ ?_⟩
       clear hK
       simp only [thenQ,blockQ,if_true,if_false]
       refine hK6 _ _ ?_;clear hK6 K6
       refine jD (Ai @g10 (w_succ t (by omega))) ?_
       refine ⟨⟨t + 1,by omega,by omega,(by repeat (first | exact hk | exact hq | refine Kp.upd ?_ (by decide) | refine Kq.upd ?_ (by decide))),(by repeat (first | exact hk | exact hq | refine Kp.upd ?_ (by decide) | refine Kq.upd ?_ (by decide))),by simp only [upd,↓reduceIte],AS.set_objs_same _ _ _,by rw [AS.set_objs_ne _ hwh.symm]; exact jh,AS.le_set hle4 hown _⟩,?_⟩
       simp only [g10,upd,↓reduceIte]
       omega
      ·have hlt : ¬ (t : Int) < 64:=by omega
       obtain rfl : t = 64:=by omega
       refine jB (Ai @g10 (decide_eq_false hlt)) ?_
       refine jF ?_
       refine awp_exit ?_
       simp only [thenQ,blockQ,if_true]
       clear hK5 K5
       refine hK4 _ _ ?_;clear hK4 K4
       have hk : Kp oh m pl (.own tk e) i (upd (upd E5 71 (AV.v (.int .i64 ((64 : Nat) : Int)))) 72 (AV.v (.bool false))):=(by repeat (first | exact hk | exact hq | refine Kp.upd ?_ (by decide) | refine Kq.upd ?_ (by decide)))
       have hq : Kq ow (upd (upd E5 71 (AV.v (.int .i64 ((64 : Nat) : Int)))) 72 (AV.v (.bool false))):=(by repeat (first | exact hk | exact hq | refine Kp.upd ?_ (by decide) | refine Kq.upd ?_ (by decide)))
       generalize (upd (upd E5 71 (AV.v (.int .i64 ((64 : Nat) : Int)))) 72 (AV.v (.bool false))) = E6 at *
       clear g10
       rw [row_full] at jw
       obtain ⟨W,hW⟩ : ∃ W,W = Sha.sch c 64:=⟨_,rfl⟩
       have hWl : W.length = 64:=by rw [hW,Sha.sch_length]
       have hmix : Sha.mix st c = st.add (Sha.rounds W st 64):=by rw [hW]; rfl
       rw [← hW] at jw
       have hst8 : (stC st).length = 8:=rfl
       have htk8 : List.take 8 (stC st) = stC st:=rfl
       have hall8:=stC_all st
       refine jS (Ai @hk.h3 @jh) fun K hK=>?_
       intro tt htt
       refine hK _ _ ?_
       clear hK
       have hown2 : s.own tt = none:=by
        cases hs : s.own tt with
        | none=>rfl
        | some g=>rw [hle4.own _ _ hs] at htt; cases htt
       have hle5 : s.le (s4.gain tt 0):=AS.le_gain hle4 hown2 _
       have jw5 : (s4.gain tt 0).objs ow = some (W.map wV):=jw
       have jh5 : (s4.gain tt 0).objs oh = some (stC st):=jh
       generalize s4.gain tt 0 = s5 at *
       refine wK fun K4 hK4=>?_
       refine jA ?_
       refine awp_block ?_
       refine awp_loop (fun E s3=>∃ t : Nat,t≤64∧Kp oh m pl (.own tk e) i E∧Kq ow E∧(∃ sp',Kr (stC (Sha.rounds W st t)) sp' E)∧E 14 = .v (.int .i64 t)∧s3.objs ow = some (W.map wV)∧s3.objs oh = some (stC st)∧s.le s3)
        (fun E _=>match E 14 with | .v (.int _ x)=>64 - x.toNat | _=>0) ?_ ?_
       ·exact ⟨0,by omega,(by repeat (first | exact hk | exact hq | refine Kp.upd ?_ (by decide) | refine Kq.upd ?_ (by decide))),(by repeat (first | exact hk | exact hq | refine Kp.upd ?_ (by decide) | refine Kq.upd ?_ (by decide))),⟨.own tt 0,by refine Kr.upd ?_ (by decide); exact ⟨by simp only [upd,↓reduceIte]; rfl⟩⟩,by simp only [upd,↓reduceIte]; rfl,jw5,jh5,hle5⟩
       ·rintro E7 s6 ⟨t,ht,hk,hq,⟨sp',hv⟩,g14,jw,jh,hle6⟩ -
        refine wK fun K5 hK5=>?_
        have hus:=Sha.rounds_ok (w:=W) hst t
        have hnxr : Sha.rounds W st (t + 1) = (Sha.rounds W st t).step (Sha.K.getD t 0) (W.getD t 0):=rfl
        generalize hu : Sha.rounds W st t = u at *
        by_cases ht' : t < 64
        ·have hlt : (t : Int) < 64:=by omega
         refine jB (Ai @g14 (decide_eq_true hlt)) ?_
         refine jE ?_
         refine awp_skip ?_
         refine hK5 _ _ ?_;clear hK5 K5
         refine wK fun K6 hK6=>?_
         refine awp_block ?_
         have ht0 : (0 : Int)≤(t : Int):=by omega
         have ht64 : (t : Int) < ((64 : Nat) : Int):=by omega
         have hwd:=wget W t (by omega)
         have hkd:=wget Sha.K t (by rw [show Sha.K.length = 64 from rfl]; omega)
         generalize W.getD t 0 = wi at *
         generalize Sha.K.getD t 0 = ki at *
         obtain ⟨KL,hKL⟩ : ∃ KL,KL = Sha.K.map wV:=⟨_,rfl⟩
         obtain ⟨WL,hWL⟩ : ∃ WL,WL = W.map wV:=⟨_,rfl⟩
         have g4:=hk.h4
         rw [← hKL] at hkd g4
         rw [← hWL] at hwd jw
         have hkd1 : List.take 1 (List.drop t KL) = [wV ki]:=by rw [hkd]; rfl
         have g13:=hv.h13
         have lt2 : ∀ {a b : Nat},a < 4294967296→b < 4294967296→a &&& b < 4294967296:=fun {a b} ha hb=>Nat.lt_of_le_of_lt Nat.and_le_left ha
         have lx2 : ∀ {a b : Nat},a < 4294967296→b < 4294967296→a ^^^ b < 4294967296:=fun {a b} ha hb=>Nat.xor_lt_two_pow (n:=32) ha hb
         have hn : 4294967295 - u.e < 4294967296:=by omega
         have z1:=wxor _ _ (Sha.rotr_lt 6 hus.e) (Sha.rotr_lt 11 hus.e)
         have z2:=wxor _ _ (lx2 (Sha.rotr_lt 6 hus.e) (Sha.rotr_lt 11 hus.e)) (Sha.rotr_lt 25 hus.e)
         have z3 : (Sha.rotr u.e 6 ^^^ Sha.rotr u.e 11) ^^^ Sha.rotr u.e 25 = Sha.sig3 u.e 6 11 25:=rfl
         rw [z3] at z2
         have z4:=wxor _ _ (Sha.rotr_lt 2 hus.a) (Sha.rotr_lt 13 hus.a)
         have z5:=wxor _ _ (lx2 (Sha.rotr_lt 2 hus.a) (Sha.rotr_lt 13 hus.a)) (Sha.rotr_lt 22 hus.a)
         have z6 : (Sha.rotr u.a 2 ^^^ Sha.rotr u.a 13) ^^^ Sha.rotr u.a 22 = Sha.sig3 u.a 2 13 22:=rfl
         rw [z6] at z5
         refine awp_mrk_seq T.mixed [(ow,WL)] [6,10,15] [43] [] (by kernel_rfl) (by simp only [Pres_cons,Pres_nil,and_true]; simp [AS.set,upd,jw]) ?_
         intro K hK
         simp only [↓AXr_nil,↓AXr_cons,gval,lval,fzGet_cons,fzGet_nil,Pres_cons,Pres_nil,List.any_cons,List.any_nil,List.contains_cons,List.contains_nil,Nat.reduceBEq,Bool.or_false,Bool.or_true,Bool.or_self,Bool.false_or,↓DN,Qa,Qb,Qc,Qd,Qe,Qf,Qg,Qh,reduceCtorEq,↓reduceIte,Na,Nb,Nc,Nk,Nf,Ng,Nh,Za,Zb,Zc,TT,g13,c8,hq.h7,g14,g4,jw]
         refine acallk (right_calls u.e 6 hus.e (by omega) (by omega) _) ?_
         rintro r sa ⟨rfl,rfl⟩
         simp only [↓AXq_nil,↓AXq_cons,pval,↓AXr_nil,↓AXr_cons,gval,lval,fzGet_cons,fzGet_nil,Pres_cons,Pres_nil,List.any_cons,List.any_nil,DX,Nat.reduceBEq,↓DN,Qa,Qb,Qc,Qd,Qe,Qf,Qg,Qh,reduceCtorEq,↓reduceIte,Na,Nb,Nc,Nk,Nf,Ng,Nh,Za,Zb,Zc,TT,g13,c8,hq.h7,g14,g4,jw]
         refine acallk (right_calls u.e 11 hus.e (by omega) (by omega) _) ?_
         rintro r sb ⟨rfl,rfl⟩
         simp only [↓AXq_nil,↓AXq_cons,pval,↓AXr_nil,↓AXr_cons,gval,lval,fzGet_cons,fzGet_nil,Pres_cons,Pres_nil,List.any_cons,List.any_nil,DX,Nat.reduceBEq,↓DN,Qa,Qb,Qc,Qd,Qe,Qf,Qg,Qh,reduceCtorEq,↓reduceIte,Na,Nb,Nc,Nk,Nf,Ng,Nh,Za,Zb,Zc,TT,g13,c8,hq.h7,g14,g4,jw,z1]
         refine acallk (right_calls u.e 25 hus.e (by omega) (by omega) _) ?_
         rintro r sc ⟨rfl,rfl⟩
         simp only [↓AXq_nil,↓AXq_cons,pval,↓AXr_nil,↓AXr_cons,gval,lval,fzGet_cons,fzGet_nil,Pres_cons,Pres_nil,List.any_cons,List.any_nil,DX,Nat.reduceBEq,↓DN,Qa,Qb,Qc,Qd,Qe,Qf,Qg,Qh,reduceCtorEq,↓reduceIte,Na,Nb,Nc,Nk,Nf,Ng,Nh,Za,Zb,Zc,TT,g13,c8,hq.h7,g14,g4,jw,z1,z2,hkd1,hwd,ht0,ht64,wadd,wand u.e u.f hus.e hus.f,wnot u.e hus.e,wand (4294967295 - u.e) u.g hn hus.g,wxor (u.e &&& u.f) ((4294967295 - u.e) &&& u.g) (lt2 hus.e hus.f) (lt2 hn hus.g)]
         refine hK _ _ ?_;clear hK K
         refine awp_drw_seq T.mixed [3,7,12] (by kernel_rfl) ?_
         intro K hK
         simp only [↓DM,pval,DX,Nz,↓DN,Qa,Qb,Qc,Qd,Qe,Qf,Qg,Qh,reduceCtorEq,↓reduceIte,Na,Nb,Nc,Nk,Nf,Ng,Nh,Za,Zb,Zc,TT,g13,c8]
         refine acallk (right_calls u.a 2 hus.a (by omega) (by omega) _) ?_
         rintro r sa ⟨rfl,rfl⟩
         simp only [↓DM,pval,DX,Nz,↓DN,Qa,Qb,Qc,Qd,Qe,Qf,Qg,Qh,reduceCtorEq,↓reduceIte,Na,Nb,Nc,Nk,Nf,Ng,Nh,Za,Zb,Zc,TT,g13,c8]
         refine acallk (right_calls u.a 13 hus.a (by omega) (by omega) _) ?_
         rintro r sb ⟨rfl,rfl⟩
         simp only [↓DM,pval,DX,Nz,↓DN,Qa,Qb,Qc,Qd,Qe,Qf,Qg,Qh,reduceCtorEq,↓reduceIte,Na,Nb,Nc,Nk,Nf,Ng,Nh,Za,Zb,Zc,TT,g13,c8,z4]
         refine acallk (right_calls u.a 22 hus.a (by omega) (by omega) _) ?_
         rintro r sc ⟨rfl,rfl⟩
         refine jV (Ai @g13 (Ai @c8 (Ai @z4 (Ai @z5 (Ai @wadd (Ai (wand u.a u.b hus.a hus.b) (Ai (wand u.a u.c hus.a hus.c) (Ai (wand u.b u.c hus.b hus.c) (Ai (wxor (u.a &&& u.b) (u.a &&& u.c) (lt2 hus.a hus.b) (lt2 hus.a hus.c)) (wxor ((u.a &&& u.b) ^^^ (u.a &&& u.c)) (u.b &&& u.c) (lx2 (lt2 hus.a hus.b) (lt2 hus.a hus.c)) (lt2 hus.b hus.c))))))))))) hK ?_;clear hK K
         refine awp_drw_end T.mixed [] (by kernel_rfl) ?_
         intro K hK
         refine jV (Ai @g13 (Ai @c8 (Ai @wadd @rep8))) hK ?_;clear hK K
         simp only [thenQ,blockQ,if_true,if_false]
         refine hK6 _ _ ?_;clear hK6 K6
         refine jD (Ai @g14 (w_succ t (by omega))) ?_
         refine ⟨⟨t + 1,by omega,(by repeat (first | exact hk | exact hq | refine Kp.upd ?_ (by decide) | refine Kq.upd ?_ (by decide))),(by repeat (first | exact hk | exact hq | refine Kp.upd ?_ (by decide) | refine Kq.upd ?_ (by decide))),⟨.new,?_⟩,by simp only [upd,↓reduceIte],by rw [jw,hWL],jh,hle6⟩,?_⟩
         ·repeat (first | refine Kr.upd ?_ (by decide))
          refine ⟨?_⟩
          simp only [upd,↓reduceIte]
          rw [hnxr]
          rfl
         ·simp only [g14,upd,↓reduceIte]
          omega
        ·have hlt : ¬ (t : Int) < 64:=by omega
         obtain rfl : t = 64:=by omega
         refine jB (Ai @g14 (decide_eq_false hlt)) ?_
         refine jF ?_
         refine awp_exit ?_
         simp only [thenQ,blockQ,if_true]
         clear hK5 K5
         refine hK4 _ _ ?_;clear hK4 K4
         have hk : Kp oh m pl (.own tk e) i (upd (upd E7 120 (AV.v (.int .i64 ((64 : Nat) : Int)))) 121 (AV.v (.bool false))):=(by repeat (first | exact hk | exact hq | refine Kp.upd ?_ (by decide) | refine Kq.upd ?_ (by decide)))
         have hv : Kr (stC u) sp' (upd (upd E7 120 (AV.v (.int .i64 ((64 : Nat) : Int)))) 121 (AV.v (.bool false))):=(by repeat (first | exact hk | exact hq | exact hv | refine Kp.upd ?_ (by decide) | refine Kq.upd ?_ (by decide) | refine Kr.upd ?_ (by decide)))
         generalize (upd (upd E7 120 (AV.v (.int .i64 ((64 : Nat) : Int)))) 121 (AV.v (.bool false))) = E8 at *
         clear g14
         rw [hu] at hmix
         rw [← addL_zero st u] at jh
         refine jA ?_
         refine awp_block ?_
         refine awp_loop (fun E s3=>∃ t : Nat,t≤8∧Kp oh m pl (.own tk e) i E∧Kr (stC u) sp' E∧E 17 = .v (.int .i64 t)∧s3.objs oh = some (addL st u t)∧s.le s3)
          (fun E _=>match E 17 with | .v (.int _ x)=>8 - x.toNat | _=>0) ?_ ?_
         ·exact ⟨0,by omega,(by repeat (first | exact hk | exact hq | refine Kp.upd ?_ (by decide) | refine Kq.upd ?_ (by decide))),(by repeat (first | exact hk | exact hq | exact hv | refine Kp.upd ?_ (by decide) | refine Kq.upd ?_ (by decide) | refine Kr.upd ?_ (by decide))),by simp only [upd,↓reduceIte]; rfl,jh,hle6⟩
         ·rintro E9 s7 ⟨t,ht,hk,hv,g17,jh,hle7⟩ -
          refine wK fun K5 hK5=>?_
          by_cases ht' : t < 8
          ·have hlt : (t : Int) < 8:=by omega
           refine jB (Ai @g17 (decide_eq_true hlt)) ?_
           refine jE ?_
           refine awp_skip ?_
           refine hK5 _ _ ?_;clear hK5 K5
           refine wK fun K6 hK6=>?_
           refine awp_block ?_
           have ht0 : (0 : Int)≤(t : Int):=by omega
           have d2:=addL_drop st u t ht'
           have d5:=stC_drop u t ht'
           have hset:=addL_set st u t ht'
           have hlen:=addL_len st u t ht
           generalize st.list.getD t 0 = x at *
           generalize u.list.getD t 0 = y at *
           have g13:=hv.h13
           obtain ⟨X,hX⟩ : ∃ X,X = addL st u t:=⟨_,rfl⟩
           rw [← hX] at d2 hset hlen jh
           obtain ⟨Y,hY⟩ : ∃ Y,Y = stC u:=⟨_,rfl⟩
           rw [← hY] at d5 g13
           have d51 : List.take 1 (List.drop t Y) = [wV y]:=by rw [d5]; rfl
           refine awp_mrk_end T.mixed [(oh,X)] [] [5] [12] (by kernel_rfl) (by simp only [Pres_cons,Pres_nil,and_true]; simp [AS.set,upd,jh]) ?_
           intro K hK
           simp only [↓AXr_nil,↓AXr_cons,gval,lval,fzGet_cons,fzGet_nil,Pres_cons,Pres_nil,List.any_cons,List.any_nil,List.contains_cons,List.contains_nil,Nat.reduceBEq,Bool.or_false,Bool.or_true,Bool.or_self,Bool.false_or,↓DN,Qa,Qb,Qc,Qd,Qe,Qf,Qg,Qh,reduceCtorEq,↓reduceIte,Na,Nb,Nc,Nk,Nf,Ng,Nh,Za,Zb,Zc,TT,hk.h3,g17,g13,c8,ht0,hlt,d2,d51,jh,wadd,hset,hlen]
           refine ⟨by omega,hK _ _ ?_⟩
           clear hK
           simp only [thenQ,blockQ,if_true,if_false]
           refine hK6 _ _ ?_;clear hK6 K6
           refine jD (Ai @g17 (w_succ t (by omega))) ?_
           refine ⟨⟨t + 1,by omega,(by repeat (first | exact hk | exact hq | refine Kp.upd ?_ (by decide) | refine Kq.upd ?_ (by decide))),(by repeat (first | exact hk | exact hq | exact hv | refine Kp.upd ?_ (by decide) | refine Kq.upd ?_ (by decide) | refine Kr.upd ?_ (by decide))),by simp only [upd,↓reduceIte],AS.set_objs_same _ _ _,AS.le_set hle7 hoh _⟩,?_⟩
           simp only [g17,upd,↓reduceIte]
           omega
          ·have hlt : ¬ (t : Int) < 8:=by omega
           obtain rfl : t = 8:=by omega
           refine jB (Ai @g17 (decide_eq_false hlt)) ?_
           refine jF ?_
           refine awp_exit ?_
           simp only [thenQ,blockQ,if_true,if_false]
           refine hK3 _ _ ?_;clear hK3 hK5 K3 K5
           have h6:=hk.h6
           have hadd : iadd .i64 ((64 * i : Nat) : Int) 64 = ((64 * (i + 1) : Nat) : Int):=i64_add (64 * i) 64 (by omega)
           refine jD (Ai @h6 @hadd) ?_
           rw [addL_full,← hmix,← hnx] at jh
           refine ⟨⟨i + 1,hi',⟨by simp only [upd,hk.h3,Nc,↓reduceIte],by simp only [upd,hk.h4,Nc,↓reduceIte],by simp only [upd,hk.h5,Nc,↓reduceIte],by simp only [upd,↓reduceIte]⟩,jh,hle7⟩,?_⟩
           simp only [upd,↓reduceIte,Int.toNat_natCast,hmu]
           omega
  ·have hlt : ¬ ((64 * i : Nat) : Int) < ((64 * m : Nat) : Int):=by omega
   obtain rfl : i = m:=by omega
   refine jB (Ai @e6 (Ai @hk.h5 (decide_eq_false hlt))) ?_
   refine jF ?_
   refine awp_exit ?_
   simp only [thenQ,blockQ,if_true]
   clear hK2 K2
   refine hK _ _ ?_;clear hK K
   have h3:=hk.h3
   generalize Sha.hash pl i = u at *
   refine jA ?_
   refine wK fun K hK=>?_
   refine jA ?_
   refine awp_block ?_
   refine awp_loop (fun E s3=>∃ t : Nat,t≤8∧E 3 = .osl oh 0 1 8 8∧E 19 = .v (.int .i64 t)∧s3.objs oh = some (stC u)∧OutS s2 (outB u t) (E 18) s3)
    (fun E _=>match E 19 with | .v (.int _ x)=>8 - x.toNat | _=>0) ?_ ?_
   ·exact ⟨0,by omega,by simp only [upd,h3,Nc,↓reduceIte],by simp only [upd,↓reduceIte]; rfl,ho,AS.le.refl s2,.inl ⟨rfl,by simp only [upd,Nc,↓reduceIte]⟩⟩
   ·rintro E3 s3 ⟨t,ht,g3,g19,jh,pout⟩ -
    refine wK fun K5 hK5=>?_
    by_cases ht' : t < 8
    ·have hlt : (t : Int) < 8:=by omega
     have ht0 : (0 : Int)≤(t : Int):=by omega
     refine jB (Ai @g19 (decide_eq_true hlt)) ?_
     refine jE ?_
     refine awp_skip ?_
     refine hK5 _ _ ?_;clear hK5 K5
     refine wK fun K6 hK6=>?_
     refine awp_block ?_
     have d5:=stC_drop u t ht'
     have hsucc:=outB_succ u t ht'
     have hol:=outB_len u t ht
     generalize u.list.getD t 0 = x at *
     have s24 : ishr .u32 (x : Int) 24 = ((x / 2 ^ 24 : Nat) : Int):=wshr x 24 (by decide)
     have s16 : ishr .u32 (x : Int) 16 = ((x / 2 ^ 16 : Nat) : Int):=wshr x 16 (by decide)
     have s8 : ishr .u32 (x : Int) 8 = ((x / 2 ^ 8 : Nat) : Int):=wshr x 8 (by decide)
     generalize hr6 : E3 18 = r6 at pout
     obtain ⟨X,hX⟩ : ∃ X,X = stC u:=⟨_,rfl⟩
     rw [← hX] at d5 jh
     refine awp_mrk_end T.mixed [(oh,X)] [25] [4,10,16,22] [] (by kernel_rfl) (by simp only [Pres_cons,Pres_nil,and_true]; simp [AS.set,upd,jh]) ?_
     intro K hK
     simp only [↓AXr_nil,↓AXr_cons,gval,lval,fzGet_cons,fzGet_nil,Pres_cons,Pres_nil,List.any_cons,List.any_nil,List.contains_cons,List.contains_nil,Nat.reduceBEq,Bool.or_false,Bool.or_true,Bool.or_self,Bool.false_or,↓DN,Qa,Qb,Qc,Qd,Qe,Qf,Qg,Qh,reduceCtorEq,↓reduceIte,Na,Nb,Nc,Nk,Nf,Ng,Nh,Za,Zb,Zc,TT,g3,g19,c8,ht0,hlt,d5,jh,s24,s16,s8,rep4,hr6]
     refine aappend_out (ds:=Sha.be x) pout rfl (by simp only [Sha.be,List.map_cons,List.map_nil,byte_of]) T.c5 T.b5 (by rw [hol]; simp only [Sha.be,List.length_cons,List.length_nil]; omega) ?_
     intro r2 s6 h6
     rw [hsucc] at h6
     refine ⟨by rw [hX]; exact h6.1.objs _ _ ho,hK _ _ ?_⟩
     clear hK
     simp only [thenQ,blockQ,if_true,if_false]
     refine hK6 _ _ ?_;clear hK6 K6
     refine jD (Ai @g19 (w_succ t (by omega))) ?_
     refine ⟨⟨t + 1,by omega,by simp only [upd,g3,Nc,↓reduceIte],by simp only [upd,↓reduceIte],h6.1.objs _ _ ho,by simpa only [upd,Nc,↓reduceIte] using h6⟩,?_⟩
     simp only [g19,upd,↓reduceIte]
     omega
    ·have hlt : ¬ (t : Int) < 8:=by omega
     obtain rfl : t = 8:=by omega
     refine jB (Ai @g19 (decide_eq_false hlt)) ?_
     refine jF ?_
     refine awp_exit ?_
     simp only [thenQ,blockQ,if_true]
     clear hK5 K5
     refine hK _ _ ?_;clear hK K
     rw [outB_full,hsum] at pout
     obtain ⟨tz,ez,hz0⟩:=outS_own pout (by rw [← List.length_pos_iff,Sha.sum_length]; decide)
     refine jB @hz0 ?_
     refine jI ?_
     exact ⟨_,s,AV.weak.refl _,AS.le.trans hle pout.1,rfl,rfl⟩
end Go.Proofs.YtfjlmkifiihgkaaGreatDoor
namespace Go.Proofs.YtfjlmkifiihgkaaGreatDoor
open Go Go.AM Go.Proofs
variable {Γ : Nat→List AV}
theorem k102 : callable Tryz.prog 214 = true:=by kernel_rfl
theorem k105 : callable Tryz.prog 216 = true:=by kernel_rfl
theorem k107 : callable Tryz.prog 254 = true:=by kernel_rfl
end Go.Proofs.YtfjlmkifiihgkaaGreatDoor
namespace Go.Proofs.YtfjlmkifiihgkaaGreatDoor
open Go Go.AM Go.Proofs
variable {Γ : Nat→List AV}
def RES (s0 : AS) (k : Nat) (cs : List AV) (L : List Int) (r : AV) (s' : AS) : Prop:=RBuf 1 s0 s' r (k + L.length) (cs ++ L.map intC)∧s0.le s'
end Go.Proofs.YtfjlmkifiihgkaaGreatDoor
namespace Go.Proofs.YtfjlmkifiihgkaaGreatDoor
open Go Go.AM Go.Proofs
variable {Γ : Nat→List AV}
def NewBuf (s s' : AS) (r : AV) (l : List Int) : Prop:=OBuf 1 s' r l.length (l.map intC)∧(∀ o,onm r = some o→s.objs o = none)∧s.le s'
theorem intsCloneB_nil (s : AS) : ACalls Tryz.prog Γ 210 [nilS] s (fun r s'=>NewBuf s s' r []):=by
 refine acalls_body Tryz.func210 rfl Tryz.ntmps210 Tryz.results210 (by simp) ?_
 unfold nilS
 refine jA ?_
 refine wK fun K hK=>?_
 refine jA ?_
 refine jE ?_
 refine jA ?_
 refine jI ?_
 exact ⟨_,_,AV.weak.refl _,AS.le.refl _,.inl ⟨rfl,rfl,.inl rfl⟩,(fun o h=>by cases h),AS.le.refl _⟩
theorem intsCloneB_no (l : List Int) (s : AS) (hl : l.length≤2 ^ 42) : ACalls Tryz.prog Γ 210 [intsV l .no] s (fun r s'=>NewBuf s s' r l):=by
 refine acalls_body Tryz.func210 rfl Tryz.ntmps210 Tryz.results210 (by simp) ?_
 unfold intsV
 refine jA ?_
 refine wK fun K hK=>?_
 refine jB @and_false ?_
 refine jF ?_
 refine awp_skip ?_
 refine hK _ _ ?_;clear hK K
 by_cases h0 : l.length = 0
 ·have hl0 : l = []:=List.eq_nil_of_length_eq_zero h0
  subst hl0
  refine jA ?_
  refine jI ?_
  exact ⟨_,s,AV.weak.refl _,AS.le.refl s,.inl ⟨rfl,rfl,.inr (.inr rfl)⟩,(fun o h=>by cases h),AS.le.refl _⟩
 ·refine awp_reg_at2 rfl (by decide) ?_
  intro ops
  simp only [↓DM,pval,DX,Nz,↓DN,Qa,Qb,Qc,Qd,Qe,Qf,Qg,Qh,reduceCtorEq,↓reduceIte,Na,Nb,Nc,Nk,Nf,Ng,Nh,Za,Zb,Zc,TT]
  refine ⟨_,fun G a w hr=>append_own_res (n:=0) (m:=l.length) (cs:=[]) (ds:=l.map intC) (e:=3) (z:=[.v (.int .i64 0)]) rfl Tryz.underlying39 (by simp only [↓DN,Qa,Qb,Qc,Qd,Qe,Qf,Qg,Qh,reduceCtorEq,↓reduceIte,Na,Nb,Nc,Nk,Nf,Ng,Nh,Za,Zb,Zc,TT]; try rfl) (by simp only [↓DN,Qa,Qb,Qc,Qd,Qe,Qf,Qg,Qh,reduceCtorEq,↓reduceIte,Na,Nb,Nc,Nk,Nf,Ng,Nh,Za,Zb,Zc,TT]; try rfl) (by rw [T.c3]; decide) (by rw [T.c3]; rfl) (by simp only [↓DN,Qa,Qb,Qc,Qd,Qe,Qf,Qg,Qh,reduceCtorEq,↓reduceIte,Na,Nb,Nc,Nk,Nf,Ng,Nh,Za,Zb,Zc,TT,asrc,aeval,upd,Nc,↓reduceIte]) h0 (by rw [T.b3]; omega) (by omega) (by simp [List.all_eq_true,intC,AV.one]) (by rw [T.c3]; exact .inl ⟨rfl,rfl,.inr (.inr rfl)⟩) hr.eval hr.st,?_⟩
  rw [T.c3]
  rintro r s1 ⟨ob,cap,rest,rfl,hcap,h63,hrl,hob,rfl⟩
  simp only [↓DM,pval,DX,Nz,↓DN,Qa,Qb,Qc,Qd,Qe,Qf,Qg,Qh,reduceCtorEq,↓reduceIte,Na,Nb,Nc,Nk,Nf,Ng,Nh,Za,Zb,Zc,TT]
  refine jI ?_
  have hob : s.objs ob = none:=by
   rcases hob with h | ⟨_,h⟩
   ·exact h
   ·simp [aeval,upd] at h
  rw [Nat.zero_add,Nat.mul_one] at *
  refine ⟨_,_,AV.weak.refl _,AS.le.refl _,.inr ⟨ob,cap,rest,rfl,AS.set_objs_same _ _ _,by simp,by rw [Nat.mul_one]; exact hrl,hcap,h63⟩,fun o h=>?_,AS.le_set (AS.le.refl s) hob _⟩
  cases h
  exact hob
theorem intsCloneB_calls (l : List Int) (s : AS) (hl : l.length≤2 ^ 42) : ACalls Tryz.prog Γ 210 [intsV l .any] s (fun r s'=>NewBuf s s' r l) :=
 ACalls.anyS (post:=[]) (fun e _=>by obtain rfl : l = []:=List.eq_nil_of_length_eq_zero e; exact intsCloneB_nil s) (intsCloneB_no l s hl)
end Go.Proofs.YtfjlmkifiihgkaaGreatDoor
namespace Go.Proofs.YtfjlmkifiihgkaaGreatDoor
open Go Go.AM Go.Proofs
variable {Γ : Nat→List AV}
theorem nodeCloneB_calls (N : NodeV) (hm : N.name.length≤2 ^ 45) (hp : N.parent.length≤2 ^ 45) (hu : N.unm.length≤2 ^ 42) (s : AS) : ACalls Tryz.prog Γ 143 [.agg N.cells] s (fun r s'=>∃ x,r = .agg (cellsX (N,x))∧NewBuf s s' x N.unm):=by
 refine acalls_body Tryz.func143 rfl Tryz.ntmps143 Tryz.results143 (by simp) ?_
 unfold NodeV.cells
 obtain ⟨k,m,y,pa,u⟩:=N
 simp only at hp hu hm
 refine jS @intsV.eq_1 fun K hK=>?_
 intro o1 ho1 o2 ho2
 have h21 : o2≠o1:=by
  rintro rfl
  simp [AS.set] at ho2
 have h12:=h21.symm
 have h20 : s.objs o2 = none:=by simpa [AS.set,upd,h21] using ho2
 refine hK _ _ ?_;clear hK K
 refine awp_mrk_seq T.mixed [(o1,[.v (.int .i64 k),.sl 1 m.length (m.map byteV) .any,.v (.int .u64 y),.sl 1 pa.length (pa.map byteV) .any,.sl 1 u.length (u.map intC) .any])] [2,5,8] [1,4,7] [10,12,14] (by kernel_rfl) (by simp only [Pres_cons,Pres_nil,and_true]; simp [AS.set,upd,h12,h21]) ?_
 intro K hK
 simp only [↓AXr_nil,↓AXr_cons,gval,lval,fzGet_cons,fzGet_nil,Pres_cons,Pres_nil,List.any_cons,List.any_nil,List.contains_cons,List.contains_nil,Nat.reduceBEq,Bool.or_false,Bool.or_true,Bool.or_self,Bool.false_or,↓DN,Qa,Qb,Qc,Qd,Qe,Qf,Qg,Qh,reduceCtorEq,↓reduceIte,Na,Nb,Nc,Nk,Nf,Ng,Nh,Za,Zb,Zc,TT,h21,h12]
 refine acallk (bytesClone_calls m _ (by omega)) ?_
 rintro r s' ⟨rfl,rfl⟩
 simp only [↓AXq_nil,↓AXq_cons,pval,↓AXr_nil,↓AXr_cons,gval,lval,fzGet_cons,fzGet_nil,Pres_cons,Pres_nil,List.any_cons,List.any_nil,DX,Nat.reduceBEq,↓DN,Qa,Qb,Qc,Qd,Qe,Qf,Qg,Qh,reduceCtorEq,↓reduceIte,Na,Nb,Nc,Nk,Nf,Ng,Nh,Za,Zb,Zc,TT,h21,h12]
 refine acallk (bytesClone_calls pa _ hp) ?_
 rintro r s' ⟨rfl,rfl⟩
 simp only [↓AXq_nil,↓AXq_cons,pval,↓AXr_nil,↓AXr_cons,gval,lval,fzGet_cons,fzGet_nil,Pres_cons,Pres_nil,List.any_cons,List.any_nil,DX,Nat.reduceBEq,↓DN,Qa,Qb,Qc,Qd,Qe,Qf,Qg,Qh,reduceCtorEq,↓reduceIte,Na,Nb,Nc,Nk,Nf,Ng,Nh,Za,Zb,Zc,TT,h21,h12]
 refine acallk (intsCloneB_calls u _ hu) ?_
 rintro r s' ⟨hb,hnew,hle⟩
 have q1 : s'.objs o1 = some [.v (.int .i64 k),.sl 1 m.length (m.map byteV) .any,.v (.int .u64 y),.sl 1 pa.length (pa.map byteV) .any,.sl 1 u.length (u.map intC) .any]:=hle.objs _ _ (by simp [AS.set,upd,h12])
 have q2 : s'.objs o2 = some [.v (.int .i64 0),.v (.slice none 0 0),.v (.int .u64 0),.v (.slice none 0 0),.v (.slice none 0 0)]:=hle.objs _ _ (AS.set_objs_same _ _ _)
 have hs : s.le s':=(AS.le_set (AS.le_set (AS.le.refl s) ho1 _) h20 _).trans hle
 have n1 : onm r≠some o1:=fun e=>by have:=hnew o1 e; simp [AS.set,upd,h12] at this
 have n2 : onm r≠some o2:=fun e=>by have:=hnew o2 e; simp [AS.set] at this
 have n0 : ∀ o,onm r = some o→s.objs o = none:=fun o e=>AS.le_none (AS.le_set (AS.le_set (AS.le.refl s) ho1 _) h20 _) (hnew o e)
 have hone : r.one = true:=by
  rcases hb with ⟨_,_,rfl | rfl | rfl⟩ | ⟨_,_,_,rfl,_⟩ <;> rfl
 have hcell : r.cells = [r]:=by
  rcases hb with ⟨_,_,rfl | rfl | rfl⟩ | ⟨_,_,_,rfl,_⟩ <;> rfl
 unfold AV.cells at hcell
 unfold AV.one at hone
 simp only [↓AXq_nil,↓AXq_cons,pval,↓AXr_nil,↓AXr_cons,gval,lval,fzGet_cons,fzGet_nil,Pres_cons,Pres_nil,List.any_cons,List.any_nil,DX,Nat.reduceBEq,↓DN,Qa,Qb,Qc,Qd,Qe,Qf,Qg,Qh,reduceCtorEq,↓reduceIte,Na,Nb,Nc,Nk,Nf,Ng,Nh,Za,Zb,Zc,TT,q1,q2,hcell,h21,h12,intsV,hone]
 refine hK _ _ ?_;clear hK K
 refine jB (Ai @q1 (Ai @q2 (Ai @hcell (Ai @h21 (Ai @h12 (Ai @intsV.eq_1 @hone)))))) ?_
 refine awp_ret ?_
 refine aends_cell (o:=o2) (off:=0) (by simp only [upd,Nc,↓reduceIte]) (AS.set_objs_same _ _ _) (by rw [T.c69]; decide) (by simp only [↓DN,Qa,Qb,Qc,Qd,Qe,Qf,Qg,Qh,reduceCtorEq,↓reduceIte,Na,Nb,Nc,Nk,Nf,Ng,Nh,Za,Zb,Zc,TT]; rfl) ?_
 refine ⟨_,_,AV.weak.refl _,AS.le.refl _,r,rfl,?_,n0,?_⟩
 ·first | exact ((((hb.set_ne n1).set_ne n1).set_ne n1).set_ne n2) | exact ((hb.set_ne n1).set_ne n2)
 ·first | exact AS.le_set (AS.le_set (AS.le_set (AS.le_set hs ho1 _) ho1 _) ho1 _) h20 _ | exact AS.le_set (AS.le_set hs ho1 _) h20 _
end Go.Proofs.YtfjlmkifiihgkaaGreatDoor
namespace Go.Proofs.YtfjlmkifiihgkaaGreatDoor
open Go Go.AM Go.Proofs
variable {Γ : Nat→List AV}
theorem zrow_quin (a b c d e : AV) : zrow 5 [a,b,c,d,e] = [a,b,c,d,e]:=rfl
theorem TreeO.leR {s0 s s' : AS} {X : AV} {TS : List (NodeV × AV)} (h : TreeO s0 s X TS) (k : s.le s') : TreeO s0 s' X TS :=
 ⟨⟨fun p hp=>(h.xs.buf p hp).le k,h.xs.new,h.xs.sep⟩,h.le.trans k,h.row.le k,h.newR,h.sepR⟩
def NodeW (n : NodeV) : Prop:=n.name.length≤2 ^ 45∧n.parent.length≤2 ^ 45∧n.unm.length≤2 ^ 42
theorem clone20_calls (t : List NodeV) (ht : t.length≤2 ^ 30) (hw : ∀ n ∈ t,NodeW n) (s : AS) : ACalls Tryz.prog Γ 69 [treeV t] s (fun r s'=>∃ TS,TS.map (·.1) = t∧TreeO s s' r TS):=by
 refine acalls_body Tryz.func69 rfl Tryz.ntmps69 Tryz.results69 (by simp) ?_
 have hat:=fun i (h : i < t.length)=>node_at (t:=t) h
 have hnW : ∀ i (h : i < t.length),NodeW (nd t i):=fun i h=>by rw [nd_get h]; exact hw _ (List.getElem_mem h)
 have htk : ∀ i (h : i < t.length),t.take (i + 1) = t.take i ++ [nd t i]:=fun i h=>by rw [List.take_succ_eq_append_getElem h,nd_get h]
 unfold treeV at *
 generalize rowC NodeV.cells t = X at *
 refine jA ?_
 refine jA ?_
 refine wK fun K hK=>?_
 refine jA ?_
 refine awp_block ?_
 refine awp_loop (fun E s2=>∃ (i : Nat) (x : AV) (TS : List (NodeV × AV)),i≤t.length∧E 8 = .v (.int .i64 i)∧E 7 = .v (.int .i64 t.length)∧E 6 = .sl 5 t.length X .any∧E 3 = x∧TS.map (·.1) = t.take i∧TreeO s s2 x TS)
  (fun E _=>match E 8 with | .v (.int _ i)=>t.length - i.toNat | _=>0) ?_ ?_
 ·exact ⟨0,_,[],Nat.zero_le _,by simp only [upd,Nc,↓reduceIte]; rfl,by simp only [upd,Nc,↓reduceIte],by simp only [upd,Nc,↓reduceIte],by simp only [upd,Nc,↓reduceIte]; rfl,rfl,TreeO.nil s⟩
 ·rintro E1 s2 ⟨i,x,TS,hi,g8,g7,g6,g3,hT,hx⟩ -
  by_cases hi' : i < t.length
  ·refine jB (Ai @g8 (Ai @g7 (Ai @eye_lt_nat (decide_eq_true hi')))) ?_
   refine wK fun K2 hK2=>?_
   refine jE ?_
   refine awp_skip ?_
   refine hK2 _ _ ?_;clear hK2 K2
   refine wK fun K3 hK3=>?_
   refine awp_block ?_
   have hat':=hat i hi'
   have hN:=hnW i hi'
   have hstep:=htk i hi'
   generalize nd t i = N at *
   have hTl : TS.length = i:=by have:=congrArg List.length hT; simp at this; omega
   have hge : (0 : Int)≤((i : Nat) : Int):=by omega
   obtain ⟨nk,nm,ny,npa,nu⟩:=N
   unfold NodeV.cells at hat'
   simp only at hat'
   refine awp_reg_frz 5 (by decide) ?_
   intro K hK
   simp only [↓DM,pval,DX,Nz,↓DN,Qa,Qb,Qc,Qd,Qe,Qf,Qg,Qh,reduceCtorEq,↓reduceIte,Na,Nb,Nc,Nk,Nf,Ng,Nh,Za,Zb,Zc,TT,g6,g8,eye_lt_nat,hi',hge,hat',intsV]
   intro o1 h1
   refine hK _ _ o1 _ (by simp only [upd,Nc,↓reduceIte]) h1 ?_
   clear hK K h1
   refine awp_region_at4 rfl (by decide) ?_
   intro ops
   simp only [↓DM,pval,DX,Nz,↓DN,Qa,Qb,Qc,Qd,Qe,Qf,Qg,Qh,reduceCtorEq,↓reduceIte,Na,Nb,Nc,Nk,Nf,Ng,Nh,Za,Zb,Zc,TT,g3]
   refine acallk (nodeCloneB_calls ⟨nk,nm,ny,npa,nu⟩ hN.1 hN.2.1 hN.2.2 _) ?_
   rintro r s3 ⟨xn,rfl,hb,hnew,hle3⟩
   unfold cellsX at *
   simp only [↓DM,pval,DX,Nz,↓DN,Qa,Qb,Qc,Qd,Qe,Qf,Qg,Qh,reduceCtorEq,↓reduceIte,Na,Nb,Nc,Nk,Nf,Ng,Nh,Za,Zb,Zc,TT,g3,zrow_quin]
   have hs0 : s2.le s3:=hle3
   have hrow : OBuf 5 s3 x i (rowC cellsX TS):=by
    have:=hx.row.le hle3
    rwa [hTl] at this
   have hone : xn.one = true:=by
    rcases hb with ⟨_,_,rfl | rfl | rfl⟩ | ⟨_,_,_,rfl,_⟩ <;> rfl
   refine ⟨_,fun G a w hr=>append_own_res (n:=i) (m:=1) (cs:=rowC cellsX TS) (ds:=cellsX (⟨nk,nm,ny,npa,nu⟩,xn)) (e:=69) rfl Tryz.underlying26 (by simp only [↓DN,Qa,Qb,Qc,Qd,Qe,Qf,Qg,Qh,reduceCtorEq,↓reduceIte,Na,Nb,Nc,Nk,Nf,Ng,Nh,Za,Zb,Zc,TT]; try rfl) T.z69 (by rw [T.c69]; decide) (by rw [T.c69]; rfl) (by rw [T.c69]; simp only [↓DN,Qa,Qb,Qc,Qd,Qe,Qf,Qg,Qh,reduceCtorEq,↓reduceIte,Na,Nb,Nc,Nk,Nf,Ng,Nh,Za,Zb,Zc,TT,asrc,aeval,upd,Nc,↓reduceIte]; rfl) (by decide) (by rw [T.b69]; omega) (by omega) (by simp only [cellsX,List.all_cons,List.all_nil,hone]; rfl) (by rw [T.c69]; exact hrow) hr.eval hr.st,?_⟩
   rw [T.c69]
   rintro r s4 ⟨ob,cap,rest,rfl,hcap,h63,hrl,hob,rfl⟩
   have hob' : s3.objs ob = none∨∃ cap0,x = .osl ob 0 5 TS.length cap0:=by
    rw [hTl]; exact hob
   have hpush:=(TreeO.leR hx hle3).push (p:=(⟨nk,nm,ny,npa,nu⟩,xn)) (ob:=ob) (cap:=cap) (rest:=rest) hb
    (fun o ho=>⟨AS.le_none hx.le (hnew o ho),(fun q hq e=>by obtain ⟨ds,hd⟩:=(hx.xs.buf q hq).some e; rw [hnew o ho] at hd; cases hd),(fun e=>by obtain ⟨ds,hd⟩:=hx.row.some e; rw [hnew o ho] at hd; cases hd)⟩)
    hob' (by rw [hTl]; exact hcap) h63 (by rw [hTl]; exact hrl)
   rw [hTl,List.append_assoc] at hpush
   refine jV @g3 hK3 ?_;clear hK3 K3
   refine jD (Ai @g8 (eye_succM i (by omega))) ?_
   refine ⟨⟨i + 1,.osl ob 0 5 (i + 1) cap,TS ++ [(⟨nk,nm,ny,npa,nu⟩,xn)],by omega,by simp only [upd,Nc,↓reduceIte],by simp only [upd,g7,Nc,↓reduceIte],by simp only [upd,g6,Nc,↓reduceIte],by simp only [upd,Nc,↓reduceIte],by rw [List.map_append,hT,hstep]; rfl,hpush⟩,?_⟩
   simp only [g8,upd,↓reduceIte]
   omega
  ·refine jB (Ai @g8 (Ai @g7 (Ai @eye_lt_nat (decide_eq_false hi')))) ?_
   refine wK fun K2 hK2=>?_
   refine jF ?_
   refine awp_exit ?_
   simp only [thenQ,blockQ,if_true]
   refine hK _ _ ?_;clear hK hK2 K2 K
   obtain rfl : i = t.length:=by omega
   refine jB @g3 ?_
   refine jI ?_
   exact ⟨_,_,AV.weak.refl _,AS.le.refl _,TS,by rw [hT,List.take_length],hx⟩
end Go.Proofs.YtfjlmkifiihgkaaGreatDoor
namespace Go.Proofs.YtfjlmkifiihgkaaGreatDoor
open Go Go.AM Go.Proofs
variable {Γ : Nat→List AV}
theorem eyeN1_lt (st : EyeSt) : (eyeNum 1 st).1 < 256:=Nat.lt_of_lt_of_le (eyeNum_lt 1 st) (by decide)
theorem treeN_weak {x : AV} {l : List NodeV} (h : x.weak (.sl 5 l.length (rowC NodeV.cells l) .any)) (h0 : l≠[]) : x.weak (treeN l):=by
 unfold treeN
 rw [if_neg h0]
 exact h
theorem treeRead_calls (hG : Γ 3 = dB64.map u8C) (s : AS) (p : Nat) (st : EyeSt) (hl : st.1.length≤2 ^ 44) (h : s.objs p = some (eyeC st)) :
  ACalls Tryz.prog Γ 103 [.ptr p 0] s (fun r s'=>r = treeN (treeRead st).1∧s' = s.set p (eyeC (treeRead st).2)):=by
 refine acalls_body Tryz.func103 rfl Tryz.ntmps103 Tryz.results103 (by simp) ?_
 obtain ⟨q1,e1⟩ : ∃ q,q = eyeNum 1 st:=⟨_,rfl⟩
 have l1 : q1.2.1.length≤2 ^ 44:=by rw [e1]; exact Nat.le_trans (eyeNum_len _ _) hl
 have k1 : q1.1 < 256:=by rw [e1]; exact eyeN1_lt _
 have hu8:=eyeU8_set (Γ:=Γ) s p st h
 rw [← e1] at hu8
 have hfi:=fun s=>fits18_calls (Γ:=Γ) (q1.1 : Int) s
 have hwd:=fun s=>width18_calls (Γ:=Γ) (q1.1 : Int) s
 have hle0 : ∀ c,(s.drop p).le (s.set p c):=fun c=>AS.le_set (AS.drop_le s p) (AS.drop_self s p) c
 by_cases hf : Fit q1.1
 ·have htr : treeRead st = treeEnd (eyeNodes (2 * q1.1 - 1) q1.2):=by simp only [treeRead,← e1,if_pos hf]
  rw [htr]
  rw [decide_eq_true (fitI_nat.2 hf)] at hfi
  have hwi : widI (q1.1 : Int) = ((2 * q1.1 - 1 : Nat) : Int):=by
   have:=hf.le
   unfold widI
   rw [if_pos (fitI_nat.2 hf)]
   omega
  rw [hwi] at hwd
  have hfl:=hf.le
  generalize hn : 2 * q1.1 - 1 = n at *
  refine jA ?_
  refine jA ?_
  refine jK hu8 ?_;rintro s1 rfl
  refine wK fun K hK=>?_
  refine jK (hfi _) ?_;rintro s2 rfl
  refine jF ?_
  refine awp_skip ?_
  refine hK _ _ ?_;clear hK K
  refine wK fun K hK=>?_
  refine jK (hwd _) ?_;rintro s3 rfl
  refine awp_block ?_
  refine awp_loop (fun E s2=>∃ (i : Nat) (x : AV),i≤n∧E 14 = .v (.int .i64 i)∧E 13 = .v (.int .i64 n)∧E 3 = x∧E 0 = .ptr p 0∧s2.objs p = some (eyeC (eyeNodes i q1.2).2)∧(s.drop p).le s2∧RBuf 5 (s.drop p) s2 x i (rowC NodeV.cells (eyeNodes i q1.2).1))
   (fun E _=>match E 14 with | .v (.int _ i)=>n - i.toNat | _=>0) ?_ ?_
  ·exact ⟨0,_,Nat.zero_le _,by simp only [upd,Nc,↓reduceIte]; rfl,by simp only [upd,Nc,↓reduceIte],by simp only [upd,Nc,↓reduceIte]; rfl,by simp only [upd,initE,List.getD_cons_zero,List.getD_cons_succ,Nc,↓reduceIte],AS.set_objs_same _ _ _,hle0 _,RBuf.nil _ _ _⟩
  ·rintro E1 s4 ⟨i,x,hi,g14,g13,g3,g0,hob,hle,hx⟩ -
   have hSl : (eyeNodes i q1.2).2.1.length≤2 ^ 44:=Nat.le_trans (eyeNodes_left _ _) l1
   have hLl:=eyeNodes_len i q1.2
   by_cases hi' : i < n
   ·refine jB (Ai @g14 (Ai @g13 (Ai @eye_lt_nat (decide_eq_true hi')))) ?_
    refine wK fun K2 hK2=>?_
    refine jE ?_
    refine awp_skip ?_
    refine hK2 _ _ ?_;clear hK2 K2
    refine wK fun K3 hK3=>?_
    refine awp_block ?_
    have hsu : eyeNodes (i + 1) q1.2 = ((eyeNodes i q1.2).1 ++ [(nodeRead (eyeNodes i q1.2).2).1],(nodeRead (eyeNodes i q1.2).2).2):=rfl
    have hend : ∀ (E : Env) (s5 : AS) (x2 : AV),E 14 = .v (.int .i64 i)→E 13 = .v (.int .i64 n)→E 3 = x2→E 0 = .ptr p 0→s5.objs p = some (eyeC (eyeNodes (i + 1) q1.2).2)→(s.drop p).le s5→RBuf 5 (s.drop p) s5 x2 (i + 1) (rowC NodeV.cells (eyeNodes (i + 1) q1.2).1)→K3 E s5:=by
     intro E s5 x2 f14 f13 f3 f0 fo fle fx
     refine hK3 _ _ ?_;clear hK3 K3
     refine jD (Ai @f14 (eye_succM i (by omega))) ?_
     refine ⟨⟨i + 1,x2,by omega,by simp only [upd,Nc,↓reduceIte],by simp only [upd,f13,Nc,↓reduceIte],by simp only [upd,f3,Nc,↓reduceIte],by simp only [upd,f0,Nc,↓reduceIte],fo,fle,fx⟩,?_⟩
     simp only [g14,upd,↓reduceIte]
     omega
    clear hK3
    rw [hsu] at hend
    simp only [row_snoc] at hend
    generalize eyeNodes i q1.2 = Q at *
    have hrd:=nodeRead_calls (Γ:=Γ) s4 p Q.2 hSl hob
    generalize nodeRead Q.2 = R at *
    obtain ⟨⟨nk,nm,ny,npa,nu⟩,S⟩:=R
    simp only at hend hrd
    generalize rowC NodeV.cells Q.1 = L at *
    unfold NodeV.cells at hend hrd
    unfold bytesV intsV at hend hrd
    have hle2 : ∀ c,(s.drop p).le (s4.set p c):=fun c=>AS.le_set hle (AS.drop_self s p) c
    rcases hx with ⟨rfl,hi0,hL0⟩ | ⟨t',e,rfl,ht',ht0⟩
    ·refine jU (Ai @g3 @g0) fun K hK=>?_
     refine acallk hrd ?_
     rintro r s5 ⟨rfl,rfl⟩
     simp only [↓DM,pval,DX,Nz,↓DN,Qa,Qb,Qc,Qd,Qe,Qf,Qg,Qh,reduceCtorEq,↓reduceIte,Na,Nb,Nc,Nk,Nf,Ng,Nh,Za,Zb,Zc,TT,g3,g0,zrow_quin,nilS]
     intro t' ht'
     refine hK _ _ ?_
     simp only [blockQ,thenQ,if_true,if_false]
     subst hi0
     rw [hL0] at hend
     have hn0 : (s.drop p).own t' = none:=own_none_le (hle2 (eyeC S)) ht'
     exact hend _ _ (.sl 5 1 [.v (.int .i64 nk),.sl 1 nm.length (nm.map byteV) .any,.v (.int .u64 ny),.sl 1 npa.length (npa.map byteV) .any,.sl 1 nu.length (nu.map intC) .any] (.own t' 0)) (by simp only [upd,g14,Nc,↓reduceIte]) (by simp only [upd,g13,Nc,↓reduceIte]) (by simp only [upd,Nc,↓reduceIte]) (by simp only [upd,g0,Nc,↓reduceIte]) (AS.set_objs_same _ _ _) (AS.le_gain (hle2 _) hn0 0) (.inr ⟨t',0,rfl,by simp [AS.gain],hn0⟩)
    ·refine jU (Ai @g3 @g0) fun K hK=>?_
     refine acallk hrd ?_
     rintro r s5 ⟨rfl,rfl⟩
     simp only [↓DM,pval,DX,Nz,↓DN,Qa,Qb,Qc,Qd,Qe,Qf,Qg,Qh,reduceCtorEq,↓reduceIte,Na,Nb,Nc,Nk,Nf,Ng,Nh,Za,Zb,Zc,TT,g3,g0,zrow_quin,ht']
     refine ⟨by omega,by omega,hK _ _ ?_⟩
     simp only [blockQ,thenQ,if_true,if_false]
     exact hend _ _ (.sl 5 (i + 1) (L ++ [.v (.int .i64 nk),.sl 1 nm.length (nm.map byteV) .any,.v (.int .u64 ny),.sl 1 npa.length (npa.map byteV) .any,.sl 1 nu.length (nu.map intC) .any]) (.own t' (e + 1))) (by simp only [upd,g14,Nc,↓reduceIte]) (by simp only [upd,g13,Nc,↓reduceIte]) (by simp only [upd,Nc,↓reduceIte]) (by simp only [upd,g0,Nc,↓reduceIte]) (AS.set_objs_same _ _ _) (AS.le_gain (hle2 _) ht0 (e + 1)) (.inr ⟨t',e + 1,rfl,by simp [AS.gain],ht0⟩)
   ·obtain rfl : i = n:=by omega
    have hW:=eyeNodes_W i (by omega) q1.2
    refine jB (Ai @g14 (Ai @g13 (Ai @eye_lt_nat (decide_eq_false hi')))) ?_
    refine wK fun K2 hK2=>?_
    refine jF ?_
    refine awp_exit ?_
    simp only [thenQ,blockQ,if_true]
    refine hK _ _ ?_;clear hK hK2 K2 K
    generalize eyeNodes i q1.2 = Q at *
    have hLne : Q.1≠[]:=by intro e; rw [e] at hLl; simp at hLl; omega
    have hxw:=hx.weak
    have hxn:=hxw
    rw [← hLl] at hxn
    have hrg:=fun s=>ACalls.weaks (.cons hxn .nil) (right20_calls (Γ:=Γ) hG Q.1 hW s)
    by_cases h1 : rightT Q.1
    ·have hte : treeEnd Q = (if Q.2.2 = 0 then Q.1 else [],Q.2):=by simp only [treeEnd,if_pos h1]
     rw [hte]
     rw [decide_eq_true h1] at hrg
     refine wK fun K hK=>?_
     refine jS @g3 fun K hK=>?_
     refine acallk (hrg _) ?_
     rintro r s5 ⟨rfl,rfl⟩
     refine jR hK ?_;clear hK K
     refine jF ?_
     refine awp_skip ?_
     refine hK _ _ ?_;clear hK K
     refine wK fun K hK=>?_
     refine jS @g0 fun K hK=>?_
     refine acallk (eyeErr_at _ p _ hob) ?_
     rintro r s6 ⟨rfl,rfl⟩
     by_cases he : Q.2.2 = 0
     ·refine jV (eqI he) hK ?_;clear hK K
      refine jF ?_
      refine awp_skip ?_
      refine hK _ _ ?_;clear hK K
      refine jB @g3 ?_
      refine jI ?_
      simp only [if_pos he]
      exact ⟨_,_,treeN_weak hxn hLne,AS.set_le_of hle hob,rfl,rfl⟩
     ·refine jV (neI he) hK ?_;clear hK K
      refine jE ?_
      refine jA ?_
      refine jI ?_
      simp only [if_neg he]
      exact ⟨_,_,AV.weak.refl _,AS.set_le_of hle hob,rfl,rfl⟩
    ·have hte : treeEnd Q = ([],failE 40 Q.2):=by
      simp only [treeEnd,if_neg h1]
      rw [if_neg]
      simp only [failE]
      split
      ·decide
      ·assumption
     rw [hte]
     rw [decide_eq_false h1] at hrg
     have hne : (failE 40 Q.2).2≠0:=by
      simp only [failE]
      split
      ·decide
      ·assumption
     refine wK fun K hK=>?_
     refine jS @g3 fun K hK=>?_
     refine acallk (hrg _) ?_
     rintro r s5 ⟨rfl,rfl⟩
     refine jR hK ?_;clear hK K
     refine jE ?_
     refine jU @g0 fun K hK=>?_
     refine acallk (eyeFail_set _ p _ 40 hob) ?_
     rintro r s6 ⟨rfl,rfl⟩
     rw [show (Q.2.1,if Q.2.2 = 0 then (40 : Int) else Q.2.2) = failE 40 Q.2 from rfl]
     refine jR hK ?_;clear hK K
     simp only [blockQ,thenQ,if_true,if_false]
     refine hK _ _ ?_;clear hK K
     refine wK fun K hK=>?_
     refine jS @g0 fun K hK=>?_
     refine acallk (eyeErr_at _ p _ (AS.set_objs_same _ _ _)) ?_
     rintro r s6 ⟨rfl,rfl⟩
     refine jV (neI hne) hK ?_;clear hK K
     refine jE ?_
     refine jA ?_
     refine jI ?_
     exact ⟨_,_,AV.weak.refl _,AS.set_le_of (AS.le_set hle (AS.drop_self s p) _) (AS.set_objs_same _ _ _),rfl,rfl⟩
 ·have htr : treeRead st = ([],failE 40 q1.2):=by simp only [treeRead,← e1,if_neg hf]
  rw [htr]
  rw [decide_eq_false (fun q=>hf (fitI_nat.1 q))] at hfi
  have hwi : widI (q1.1 : Int) = 0:=by
   unfold widI
   rw [if_neg (fun q=>hf (fitI_nat.1 q))]
  rw [hwi] at hwd
  have hne : (failE 40 q1.2).2≠0:=by
   simp only [failE]
   split
   ·decide
   ·assumption
  have hrg:=fun s=>ACalls.weaks (args:=[.v (.slice none 0 0)]) (.cons (AV.weak_nil (sz:=5)) .nil) (right20_calls (Γ:=Γ) hG [] ⟨by simp,fun n hn=>by cases hn⟩ s)
  rw [decide_eq_false (fun q=>by have:=q.1; revert this; decide)] at hrg
  have hff : failE 40 (failE 40 q1.2) = failE 40 q1.2:=by
   simp only [failE]
   split
   ·rfl
   ·rename_i hq; simp only [if_neg hq]
  refine jA ?_
  refine jA ?_
  refine jK hu8 ?_;rintro s1 rfl
  refine wK fun K hK=>?_
  refine jK (hfi _) ?_;rintro s2 rfl
  refine jE ?_
  refine jT fun K hK=>?_
  refine acallk (eyeFail_set _ p _ 40 (AS.set_objs_same _ _ _)) ?_
  rintro r s6 ⟨rfl,rfl⟩
  rw [show (q1.2.1,if q1.2.2 = 0 then (40 : Int) else q1.2.2) = failE 40 q1.2 from rfl]
  refine jR hK ?_;clear hK K
  simp only [blockQ,thenQ,if_true,if_false]
  refine hK _ _ ?_;clear hK K
  refine wK fun K hK=>?_
  refine jK (hwd _) ?_;rintro s7 rfl
  refine awp_block ?_
  refine awp_loop (fun E s2=>E 14 = .v (.int .i64 0)∧E 13 = .v (.int .i64 0)∧E 3 = .v (.slice none 0 0)∧E 0 = .ptr p 0∧s2.objs p = some (eyeC (failE 40 q1.2))∧(s.drop p).le s2)
   (fun E _=>0) ?_ ?_
  ·exact ⟨by simp only [upd,Nc,↓reduceIte],by simp only [upd,Nc,↓reduceIte],by simp only [upd,Nc,↓reduceIte],by simp only [upd,initE,List.getD_cons_zero,List.getD_cons_succ,Nc,↓reduceIte],AS.set_objs_same _ _ _,hle0 _⟩
  ·rintro E1 s4 ⟨g14,g13,g3,g0,hob,hle⟩ -
   refine jB (Ai @g14 (Ai @g13 (show decide ((0 : Int) < 0) = false from rfl))) ?_
   refine wK fun K2 hK2=>?_
   refine jF ?_
   refine awp_exit ?_
   simp only [thenQ,blockQ,if_true]
   refine hK _ _ ?_;clear hK hK2 K2 K
   refine wK fun K hK=>?_
   refine jS @g3 fun K hK=>?_
   refine acallk (hrg _) ?_
   rintro r s5 ⟨rfl,rfl⟩
   refine jR hK ?_;clear hK K
   refine jE ?_
   refine jU @g0 fun K hK=>?_
   refine acallk (eyeFail_set _ p _ 40 hob) ?_
   rintro r s6 ⟨rfl,rfl⟩
   rw [show ((failE 40 q1.2).1,if (failE 40 q1.2).2 = 0 then (40 : Int) else (failE 40 q1.2).2) = failE 40 (failE 40 q1.2) from rfl,hff]
   refine jR hK ?_;clear hK K
   simp only [blockQ,thenQ,if_true,if_false]
   refine hK _ _ ?_;clear hK K
   refine wK fun K hK=>?_
   refine jS @g0 fun K hK=>?_
   refine acallk (eyeErr_at _ p _ (AS.set_objs_same _ _ _)) ?_
   rintro r s6 ⟨rfl,rfl⟩
   refine jV (neI hne) hK ?_;clear hK K
   refine jE ?_
   refine jA ?_
   refine jI ?_
   exact ⟨_,_,AV.weak.refl _,AS.set_le_of (AS.le_set hle (AS.drop_self s p) _) (AS.set_objs_same _ _ _),rfl,rfl⟩
end Go.Proofs.YtfjlmkifiihgkaaGreatDoor
