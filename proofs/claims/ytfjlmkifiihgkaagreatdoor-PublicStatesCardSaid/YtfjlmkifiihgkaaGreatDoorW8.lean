/- Contracts of the program's functions, each walked once; the conditions stand in each theorem. -/
import Derived.Test.YtfjlmkifiihgkaaGreatDoorAMp6
import Derived.Test.YtfjlmkifiihgkaaGreatDoorW1
import Derived.Test.YtfjlmkifiihgkaaGreatDoorW7
import Derived.Test.YtfjlmkifiihgkaaGreatDoorW4
set_option linter.unusedSimpArgs false
set_option linter.unusedVariables false
open Nat renaming reduceLT → Na, reduceLeDiff → Nb, reduceEqDiff → Nc, reduceAdd → Nk, reduceMul → Nf, reducePow → Ng, reduceSub → Nh, reduceBEq → Nz
open Int renaming reduceLT → Za, reduceLE → Zb, reduceToNat → Zc
open And renaming intro → Ai
open Go.AM renaming ashift → Qa, aconv → Qb, aindexAddr → Qc, aindex → Qd, aslice → Qe, abuiltin → Qf, awp_reg_seq → wS, awp_reg_end → wE, awp_seq_k → wK, awp_cond_k → wC
open Go.AM.AV renaming cells → Qg, one → Qh
set_option maxRecDepth 100000
set_option maxHeartbeats 8000000
set_option autoImplicit false
namespace Go.Proofs.YtfjlmkifiihgkaaGreatDoor
open Go Go.AM Go.Proofs
variable {Γ : Nat→List AV}
theorem oct_len (n : Nat) (h : n≤2 ^ 45) : imul .u64 (iconv .u64 (n : Int)) 8 = ((8 * n * 2 ^ (8 * 0) % 18446744073709551616 : Nat) : Int):=by
 rw [iconv_u rfl,show (8 : Int) = ((8 : Nat) : Int) from rfl,imul_u rfl]
 simp only [IntKind.bits]
 congr 1
 omega
theorem oct_byte (n j : Nat) (hj : j < 8) : iconv .u8 (ishr .u64 ((8 * n * 2 ^ (8 * j) % 18446744073709551616 : Nat) : Int) 56) = iconv .u8 ((8 * n / 2 ^ (8 * (7 - j)) : Nat) : Int):=by
 rw [show (56 : Int) = ((56 : Nat) : Int) from rfl,ishr_u,iconv_u rfl,iconv_u rfl]
 simp only [IntKind.bits]
 congr 1
 rw [show min 56 64 = 56 from rfl]
 have : j = 0∨j = 1∨j = 2∨j = 3∨j = 4∨j = 5∨j = 6∨j = 7:=by omega
 rcases this with rfl | rfl | rfl | rfl | rfl | rfl | rfl | rfl <;> simp only [Nat.reduceMul,Nat.reduceSub,Nat.reducePow] <;> omega
theorem oct_shl (n j : Nat) (hj : j < 8) : ishl .u64 ((8 * n * 2 ^ (8 * j) % 18446744073709551616 : Nat) : Int) 8 = ((8 * n * 2 ^ (8 * (j + 1)) % 18446744073709551616 : Nat) : Int):=by
 rw [show (8 : Int) = ((8 : Nat) : Int) from rfl,ishl_u rfl]
 simp only [IntKind.bits]
 congr 1
 rw [show min 8 64 = 8 from rfl]
 have : j = 0∨j = 1∨j = 2∨j = 3∨j = 4∨j = 5∨j = 6∨j = 7:=by omega
 rcases this with rfl | rfl | rfl | rfl | rfl | rfl | rfl | rfl <;> simp only [Nat.reduceMul,Nat.reduceAdd,Nat.reducePow] <;> omega
theorem octets_calls (l : List UInt8) (hl : l.length≤2 ^ 44) (s : AS) :
  ACalls Tryz.prog Γ 180 [.v (.string ⟨l.toArray⟩)] s (fun r s'=>OutS s (Sha.pad l) r s'):=by
 refine acalls_body Tryz.func180 rfl Tryz.ntmps180 Tryz.results180 (by simp) ?_
 refine jA ?_
 refine awp_reg_mid1 rfl (by decide) ?_
 intro ops
 simp only [↓DM,pval,DX,Nz,↓DN,Qa,Qb,Qc,Qd,Qe,Qf,Qg,Qh,reduceCtorEq,↓reduceIte,Na,Nb,Nc,Nk,Nf,Ng,Nh,Za,Zb,Zc,TT]
 refine ⟨fun r s'=>OutS s l r s',fun G a w hr=>?_,?_⟩
 ·exact conv_own_res (l:=l) (src:=9) (dst:=22) (e:=5) (x:=.tmp 6) rfl Tryz.underlying9 Tryz.underlying22 Tryz.underlying5 (by simp only [aeval,upd,↓reduceIte]) hr.eval hr.st
 intro r s1 h1
 simp only [↓DN,Qa,Qb,Qc,Qd,Qe,Qf,Qg,Qh,reduceCtorEq,↓reduceIte,Na,Nb,Nc,Nk,Nf,Ng,Nh,Za,Zb,Zc,TT,List.replicate_one,Nat.lt_irrefl]
 refine aappend_out (ds:=[128]) h1 rfl rfl T.c5 T.b5 (by simp; omega) ?_
 intro r2 s2 h2
 refine wK fun K hK=>?_
 refine awp_block ?_
 refine awp_loop (fun E s2=>∃ k : Nat,k≤Sha.zeros l.length∧E 0 = .v (.string ⟨l.toArray⟩)∧OutS s (l ++ [128] ++ List.replicate k 0) (E 3) s2)
  (fun E s2=>match E 3 with | .sl _ n _ _=>l.length + 1 + Sha.zeros l.length - n | _=>0) ?_ ?_
 ·exact ⟨0,Nat.zero_le _,by simp only [upd,initE,Nc,↓reduceIte,List.getD_cons_zero],by simpa only [upd,↓reduceIte,List.replicate_zero,List.append_nil] using h2⟩
 ·rintro E2 s3 ⟨k,hk,g0',gout⟩ -
  refine wK fun K2 hK2=>?_
  obtain ⟨t,e,g0⟩:=outS_own gout (by simp)
  have hlen : (l ++ [128] ++ List.replicate k 0).length = l.length + 1 + k:=by simp; omega
  generalize hL : l ++ [128] ++ List.replicate k 0 = L at *
  have hLn : L≠[]:=by intro e'; rw [e'] at hlen; simp only [List.length_nil] at hlen; omega
  by_cases hk' : k = Sha.zeros l.length
  ·have h56 : L.length % 64 = 56:=by rw [hlen,hk',Sha.zeros]; omega
   have hb:=bne_f (show ((L.length % 64 : Nat) : Int) = 56 by omega)
   refine jB (Ai @g0 (Ai @rem64 @hb)) ?_
   refine wC fun X Y hX hY=>?_
   simp only [↓DN,Qa,Qb,Qc,Qd,Qe,Qf,Qg,Qh,reduceCtorEq,↓reduceIte,Na,Nb,Nc,Nk,Nf,Ng,Nh,Za,Zb,Zc,TT,DB,hb]
   refine hY ?_;clear hX hY X Y
   refine awp_exit ?_
   simp only [thenQ,blockQ,if_true]
   clear hK2 K2
   refine hK _ _ ?_;clear hK K
   rw [← g0]
   have hol:=oct_len l.length (by omega)
   refine jB (Ai @g0' (Ai @bs_size @hol)) ?_
   refine wK fun K hK=>?_
   refine jA ?_
   refine awp_block ?_
   refine awp_loop (fun E s2=>∃ j : Nat,j≤8∧E 4 = .v (.int .u64 ((8 * l.length * 2 ^ (8 * j) % 18446744073709551616 : Nat) : Int))∧E 5 = .v (.int .i64 j)∧OutS s (L ++ (Sha.lenB l.length).take j) (E 3) s2)
    (fun E s2=>match E 5 with | .v (.int _ i)=>8 - i.toNat | _=>0) ?_ ?_
   ·exact ⟨0,by omega,by simp only [upd,Nc,↓reduceIte,Nat.mul_zero,Nat.pow_zero,Nat.mul_one],by simp only [upd,↓reduceIte]; rfl,by simpa only [upd,Nc,↓reduceIte,List.take_zero,List.append_nil] using gout⟩
   ·rintro E3 s4 ⟨j,hj,f4,f5,fout⟩ -
    refine wK fun K2 hK2=>?_
    by_cases hj' : j < 8
    ·have hge : (j : Int) < 8:=by omega
     refine jB (Ai @f5 (decide_eq_true hge)) ?_
     refine jE ?_
     refine awp_skip ?_
     refine hK2 _ _ ?_;clear hK2 K2
     refine wK fun K3 hK3=>?_
     refine awp_block ?_
     have hby:=oct_byte l.length j hj'
     have hsh:=oct_shl l.length j hj'
     generalize 8 * l.length * 2 ^ (8 * j) % 18446744073709551616 = y at *
     generalize hr6 : E3 3 = r6 at fout
     refine wS fun K hK=>?_
     simp only [↓DN,Qa,Qb,Qc,Qd,Qe,Qf,Qg,Qh,reduceCtorEq,↓reduceIte,Na,Nb,Nc,Nk,Nf,Ng,Nh,Za,Zb,Zc,TT,hr6,f4,hby,List.replicate_one,Nat.lt_irrefl]
     refine aappend_out (ds:=[UInt8.ofNat (8 * l.length / 2 ^ (8 * (7 - j)))]) fout rfl (by rw [List.map_cons,byte_of]; rfl) T.c5 T.b5 (by rw [List.length_append,List.length_take,hlen]; unfold Sha.zeros at hk; simp only [List.length_cons,List.length_nil]; omega) ?_
     intro r2 s5 h5
     rw [List.append_assoc,← take_get _ _ _ (lenB_get l.length j hj')] at h5
     refine hK _ _ ?_;clear hK K
     refine jD (Ai @f4 @hsh) ?_
     simp only [thenQ,blockQ,if_true,if_false]
     refine hK3 _ _ ?_;clear hK3 K3
     refine jD (Ai @f5 (w_succ j (by omega))) ?_
     refine ⟨⟨j + 1,by omega,by simp only [upd,Nc,↓reduceIte],by simp only [upd,↓reduceIte],by simpa only [upd,Nc,↓reduceIte] using h5⟩,?_⟩
     simp only [f5,upd,↓reduceIte]
     omega
    ·have hge : ¬ (j : Int) < 8:=by omega
     obtain rfl : j = 8:=by omega
     refine jB (Ai @f5 (decide_eq_false hge)) ?_
     refine jF ?_
     refine awp_exit ?_
     simp only [thenQ,blockQ,if_true]
     clear hK2 K2
     refine hK _ _ ?_;clear hK K
     have hfin : L ++ (Sha.lenB l.length).take 8 = Sha.pad l:=by
      rw [← hL,hk',Sha.pad,show (Sha.lenB l.length).take 8 = Sha.lenB l.length from rfl]
      simp
     rw [hfin] at fout
     generalize hr6 : E3 3 = r6 at fout
     refine jB @hr6 ?_
     refine jI ?_
     exact ⟨_,_,AV.weak.refl _,AS.le.refl _,fout⟩
  ·have h56 : L.length % 64≠56:=by rw [hlen]; unfold Sha.zeros at hk hk'; omega
   have hb:=bne_t (show ((L.length % 64 : Nat) : Int)≠56 by omega)
   refine jB (Ai @g0 (Ai @rem64 @hb)) ?_
   refine wC fun X Y hX hY=>?_
   simp only [↓DN,Qa,Qb,Qc,Qd,Qe,Qf,Qg,Qh,reduceCtorEq,↓reduceIte,Na,Nb,Nc,Nk,Nf,Ng,Nh,Za,Zb,Zc,TT,DB,hb]
   refine hX ?_;clear hX hY X Y
   refine awp_skip ?_
   refine hK2 _ _ ?_;clear hK2 K2
   refine awp_block ?_
   generalize hr6 : E2 3 = r6 at gout
   refine wE fun K hK=>?_
   simp only [↓DN,Qa,Qb,Qc,Qd,Qe,Qf,Qg,Qh,reduceCtorEq,↓reduceIte,Na,Nb,Nc,Nk,Nf,Ng,Nh,Za,Zb,Zc,TT,hr6,List.replicate_one,Nat.lt_irrefl]
   refine aappend_out (ds:=[0]) gout rfl rfl T.c5 T.b5 (by rw [hlen]; unfold Sha.zeros at hk; simp; omega) ?_
   intro r2 s2 h2
   have hL2 : L ++ [0] = l ++ [128] ++ List.replicate (k + 1) 0:=by rw [← hL,List.replicate_succ',List.append_assoc _ (List.replicate k 0)]
   rw [hL2] at h2
   refine hK _ _ ?_;clear hK K
   simp only [thenQ,blockQ,if_true,if_false]
   obtain ⟨t2,e2,q0⟩:=outS_own h2 (by simp)
   refine ⟨⟨k + 1,by omega,by simp only [upd,g0',Nc,↓reduceIte],by simpa only [upd,↓reduceIte] using h2⟩,?_⟩
   rw [hr6] at g0
   simp only [upd,↓reduceIte,hr6,q0,g0,List.length_append,List.length_replicate,List.length_cons,List.length_nil,hlen]
   omega
end Go.Proofs.YtfjlmkifiihgkaaGreatDoor
namespace Go.Proofs.YtfjlmkifiihgkaaGreatDoor
open Go Go.AM Go.Proofs
variable {Γ : Nat→List AV}
theorem be32_or (a b c d : UInt8) : ior .u32 (ior .u32 (ior .u32 (ishl .u32 (iconv .u32 (a.toNat : Int)) 24) (ishl .u32 (iconv .u32 (b.toNat : Int)) 16)) (ishl .u32 (iconv .u32 (c.toNat : Int)) 8)) (iconv .u32 (d.toNat : Int)) = ((Sha.be32 a.toNat b.toNat c.toNat d.toNat : Nat) : Int):=by
 have ha:=a.toNat_lt; have hb:=b.toNat_lt; have hc:=c.toNat_lt; have hd:=d.toNat_lt
 have e1 : ∀ x : UInt8,iconv .u32 (x.toNat : Int) = ((x.toNat : Nat) : Int):=fun x=>by
  have:=x.toNat_lt
  rw [iconv_u rfl]
  simp only [IntKind.bits]
  congr 1
  omega
 have s24 : ∀ x : Nat,x < 256→ishl .u32 (x : Int) 24 = ((x * 16777216 : Nat) : Int):=fun x hx=>by
  have:=wshl x 24 (by decide)
  rw [show ((24 : Nat) : Int) = 24 from rfl] at this
  rw [this]
  congr 1
  simp only [Nat.reducePow]
  omega
 have s16 : ∀ x : Nat,x < 256→ishl .u32 (x : Int) 16 = ((x * 65536 : Nat) : Int):=fun x hx=>by
  have:=wshl x 16 (by decide)
  rw [show ((16 : Nat) : Int) = 16 from rfl] at this
  rw [this]
  congr 1
  simp only [Nat.reducePow]
  omega
 have s8 : ∀ x : Nat,x < 256→ishl .u32 (x : Int) 8 = ((x * 256 : Nat) : Int):=fun x hx=>by
  have:=wshl x 8 (by decide)
  rw [show ((8 : Nat) : Int) = 8 from rfl] at this
  rw [this]
  congr 1
  simp only [Nat.reducePow]
  omega
 rw [e1,e1,e1,e1]
 generalize a.toNat = a at *
 generalize b.toNat = b at *
 generalize c.toNat = c at *
 generalize d.toNat = d at *
 rw [s24 a ha,s16 b hb,s8 c hc]
 have o1 : a * 16777216 ||| b * 65536 = a * 16777216 + b * 65536:=by
  have:=Nat.shiftLeft_add_eq_or_of_lt (b:=b * 65536) (i:=24) (by simp only [Nat.reducePow]; omega) a
  rw [Nat.shiftLeft_eq] at this
  simp only [Nat.reducePow] at this
  exact this.symm
 have o2 : (a * 16777216 + b * 65536) ||| c * 256 = a * 16777216 + b * 65536 + c * 256:=by
  have:=Nat.shiftLeft_add_eq_or_of_lt (b:=c * 256) (i:=16) (by simp only [Nat.reducePow]; omega) (a * 256 + b)
  rw [Nat.shiftLeft_eq] at this
  simp only [Nat.reducePow] at this
  have e : (a * 256 + b) * 65536 = a * 16777216 + b * 65536:=by simp only [Nat.add_mul,Nat.mul_assoc,Nat.reduceMul]
  rw [e] at this
  exact this.symm
 have o3 : (a * 16777216 + b * 65536 + c * 256) ||| d = a * 16777216 + b * 65536 + c * 256 + d:=by
  have:=Nat.shiftLeft_add_eq_or_of_lt (b:=d) (i:=8) (by simp only [Nat.reducePow]; omega) (a * 65536 + b * 256 + c)
  rw [Nat.shiftLeft_eq] at this
  simp only [Nat.reducePow] at this
  have e : (a * 65536 + b * 256 + c) * 256 = a * 16777216 + b * 65536 + c * 256:=by simp only [Nat.add_mul,Nat.mul_assoc,Nat.reduceMul]
  rw [e] at this
  exact this.symm
 rw [wor _ _ (by omega) (by omega),o1,wor _ _ (by omega) (by omega),o2,wor _ _ (by omega) (by omega),o3,Sha.be32]
 simp only [Nat.add_mul,Nat.mul_assoc,Nat.reduceMul]
structure Kp (oh m : Nat) (pl : List UInt8) (sp : Sp) (i : Nat) (E : Env) : Prop where
 h3 : E 3 = .osl oh 0 1 8 8
 h4 : E 4 = .sl 1 64 (Sha.K.map wV) .no
 h5 : E 5 = .sl 1 (64 * m) (pl.map byteV) sp
 h6 : E 6 = .v (.int .i64 ((64 * i : Nat) : Int))
theorem Kp.upd {oh m i d : Nat} {pl : List UInt8} {sp : Sp} {E : Env} {v : AV} (h : Kp oh m pl sp i E) (hd : d≠3∧d≠4∧d≠5∧d≠6) : Kp oh m pl sp i (upd E d v) :=
 ⟨by rw [upd_ne _ _ (Ne.symm hd.1)]; exact h.h3,by rw [upd_ne _ _ (Ne.symm hd.2.1)]; exact h.h4,by rw [upd_ne _ _ (Ne.symm hd.2.2.1)]; exact h.h5,by rw [upd_ne _ _ (Ne.symm hd.2.2.2)]; exact h.h6⟩
structure Kq (ow : Nat) (E : Env) : Prop where
 h7 : E 7 = .osl ow 0 1 64 64
theorem Kq.upd {ow d : Nat} {E : Env} {v : AV} (h : Kq ow E) (hd : d≠7) : Kq ow (upd E d v):=⟨by rw [upd_ne _ _ (Ne.symm hd)]; exact h.h7⟩
structure Kr (cs : List AV) (sp : Sp) (E : Env) : Prop where
 h13 : E 13 = .sl 1 8 cs sp
theorem Kr.upd {cs : List AV} {sp : Sp} {d : Nat} {E : Env} {v : AV} (h : Kr cs sp E) (hd : d≠13) : Kr cs sp (upd E d v):=⟨by rw [upd_ne _ _ (Ne.symm hd)]; exact h.h13⟩
theorem bget (l : List UInt8) (i : Nat) (h : i < l.length) : List.take 1 (List.drop i (l.map byteV)) = [.v (.int .u8 ((l.getD i 0).toNat : Int))]:=by
 have : (l.map byteV)[i]? = some (byteV (l.getD i 0)):=by
  rw [List.getElem?_map,List.getElem?_eq_getElem h]
  simp only [Option.map_some,List.getD,List.getElem?_eq_getElem h,Option.getD_some]
 rw [drop_cons _ _ _ this]
 rfl
theorem bget' (l : List UInt8) (i : Nat) (h : i < l.length) : List.map byteV (List.take 1 (List.drop i l)) = [.v (.int .u8 ((l.getD i 0).toNat : Int))]:=by
 rw [List.map_take,List.map_drop]
 exact bget l i h
theorem blk_getD (l : List UInt8) (i j : Nat) (h : j < 64) (hl : 64 * i + j < l.length) : (Sha.blk l i).getD j 0 = l.getD (64 * i + j) 0:=by
 simp only [Sha.blk,List.getD_eq_getElem?_getD,List.getElem?_take,if_pos h,List.getElem?_drop]
theorem rep8 (x : AV) : List.replicate 8 x = [x,x,x,x,x,x,x,x]:=rfl
theorem wget (l : List Nat) (i : Nat) (h : i < l.length) : List.drop i (l.map wV) = wV (l.getD i 0) :: List.drop (i + 1) (l.map wV):=drop_cons _ _ _ (map_getD l i h)
theorem refSum_calls (l : List UInt8) (hl : l.length≤2 ^ 40) (s : AS) :
  ACalls Tryz.prog Γ 97 [.v (.string ⟨l.toArray⟩)] s (fun r s'=>r = .v (.string ⟨(Sha.sum l).toArray⟩)∧s' = s):=by
 refine acalls_body Tryz.func97 rfl Tryz.ntmps97 Tryz.results97 (by simp) ?_
 refine jA ?_
 refine awp_reg_mid0 rfl (by decide) (fun r s'=>∃ ob,s.objs ob = none∧r = .osl ob 0 (Tryz.prog.cellsOf 213) 8 8∧s' = s.set ob (stC Sha.H0)) (fun G a w hr=>?_) ?_
 ·exact lit_obj_res (cs:=stC Sha.H0) (e:=213) rfl Tryz.underlying222 T.z213 (by rw [T.c213]; decide) (by rw [T.c213]; decide) (by rw [T.c213]; rfl) (by simp only [T.c213]; rfl) hr.eval hr.st
 rw [T.c213]
 rintro r s1 ⟨oh,hoh,rfl,rfl⟩
 simp only [↓DM,pval,DX,Nz,↓DN,Qa,Qb,Qc,Qd,Qe,Qf,Qg,Qh,reduceCtorEq,↓reduceIte,Na,Nb,Nc,Nk,Nf,Ng,Nh,Za,Zb,Zc,TT]
 refine jK (refK_calls _) ?_;rintro s2 rfl
 refine jQ fun K hK=>?_
 refine acallk (octets_calls l (by omega) _) ?_
 intro r s1 hout
 have hpl:=Sha.pad_length l
 have hpm:=Sha.pad_mod l
 obtain ⟨m,hm⟩ : ∃ m,(Sha.pad l).length = 64 * m:=⟨(Sha.pad l).length / 64,by omega⟩
 have hz : Sha.zeros l.length < 64:=by rw [Sha.zeros]; omega
 have hm40 : 64 * m≤2 ^ 41:=by omega
 obtain ⟨tk,e,hr0⟩:=outS_own hout (by rw [← List.length_pos_iff]; omega)
 rw [hm] at hr0
 subst hr0
 have hle : s.le s1:=AS.le.trans (AS.le_set (AS.le.refl s) hoh _) hout.1
 have hobj : s1.objs oh = some (stC Sha.H0):=hout.1.objs _ _ (AS.set_objs_same _ _ _)
 clear hout
 refine jR hK ?_;clear hK K
 have hsum : (Sha.hash (Sha.pad l) m).bytes = Sha.sum l:=by rw [Sha.sum,hm,Nat.mul_div_cancel_left _ (by decide)]
 obtain ⟨pl,hpl0⟩ : ∃ pl,pl = Sha.pad l:=⟨_,rfl⟩
 rw [← hpl0] at hm hsum ⊢
 refine wK fun K hK=>?_
 refine jA ?_
 refine awp_block ?_
 refine awp_loop (fun E s2=>∃ i : Nat,i≤m∧Kp oh m pl (.own tk e) i E∧s2.objs oh = some (stC (Sha.hash pl i))∧s.le s2)
  (fun E _=>match E 6 with | .v (.int _ x)=>64 * m - x.toNat | _=>0) ?_ ?_
 ·exact ⟨0,Nat.zero_le _,⟨by simp only [upd,Nc,↓reduceIte],by simp only [upd,Nc,↓reduceIte],by simp only [upd,Nc,↓reduceIte],by simp only [upd,↓reduceIte]; rfl⟩,hobj,hle⟩
 ·rintro E1 s2 ⟨i,hi,hk,ho,hle⟩ -
  have e6:=hk.h6
  have hmu:=hk.h6
  refine wK fun K2 hK2=>?_
  by_cases hi' : i < m
  ·have hlt : ((64 * i : Nat) : Int) < ((64 * m : Nat) : Int):=by omega
   refine jB (Ai @e6 (Ai @hk.h5 (decide_eq_true hlt))) ?_
   refine jE ?_
   refine awp_skip ?_
   refine hK2 _ _ ?_;clear hK2 K2
   refine wK fun K3 hK3=>?_
   refine awp_block ?_
   have hcl : (Sha.blk pl i).length = 64:=(chunk_blk pl i (by omega)).2
   have hbg : ∀ j,j < 64→(Sha.blk pl i).getD j 0 = pl.getD (64 * i + j) 0:=fun j hj=>blk_getD pl i j hj (by omega)
   have hpg : ∀ j,j < 64 * m→List.map byteV (List.take 1 (List.drop j pl)) = [.v (.int .u8 ((pl.getD j 0).toNat : Int))]:=fun j hj=>bget' pl j (by omega)
   obtain ⟨c,hc⟩ : ∃ c,c = Sha.blk pl i:=⟨_,rfl⟩
   rw [← hc] at hcl hbg
   have hnx : Sha.hash pl (i + 1) = Sha.mix (Sha.hash pl i) c:=by rw [hc]; rfl
   have hst:=Sha.hash_ok pl i
   generalize hstd : Sha.hash pl i = st at *
   refine jQ fun K hK=>?_
   refine ⟨by decide,by decide,fun ow how=>?_⟩
   have hwh : ow≠oh:=fun e'=>by rw [e',ho] at how; cases how
   have hown : s.objs ow = none:=by
    cases hs : s.objs ow with
    | none=>rfl
    | some cs=>rw [hle.objs _ _ hs] at how; cases how
   refine hK _ _ ?_
   clear hK
   rw [show List.replicate 64 (AV.v (.int .u32 0)) = row c 0 from rfl]
   obtain ⟨E2,hE2⟩ : ∃ E2,E2 = (upd (upd (upd (upd (upd (upd E1 24 (AV.v (Value.int IntKind.i64 ((64 * i : Nat) : Int)))) 25 (AV.sl 1 (64 * m) (List.map byteV pl) (Sp.own tk e))) 26 (AV.v (Value.int IntKind.i64 ((64 * m : Nat) : Int)))) 27 (AV.v (Value.bool true))) 30 (AV.osl ow 0 1 64 64)) 7 (AV.osl ow 0 1 64 64)):=⟨_,rfl⟩
   have hk : Kp oh m pl (.own tk e) i E2:=by
    rw [hE2]
    repeat (first | exact hk | refine Kp.upd ?_ (by decide))
   have hq : Kq ow E2:=⟨by rw [hE2]; simp only [upd,↓reduceIte]⟩
   rw [← hE2]
   clear hE2 e6
   refine wK fun K4 hK4=>?_
   refine jA ?_
   refine awp_block ?_
   refine awp_loop (fun E s3=>∃ t : Nat,t≤16∧Kp oh m pl (.own tk e) i E∧Kq ow E∧E 8 = .v (.int .i64 t)∧s3.objs ow = some (row c t)∧s3.objs oh = some (stC st)∧s.le s3)
    (fun E _=>match E 8 with | .v (.int _ x)=>16 - x.toNat | _=>0) ?_ ?_
   ·exact ⟨0,by omega,(by repeat (first | exact hk | exact hq | refine Kp.upd ?_ (by decide) | refine Kq.upd ?_ (by decide))),(by repeat (first | exact hk | exact hq | refine Kp.upd ?_ (by decide) | refine Kq.upd ?_ (by decide))),by simp only [upd,↓reduceIte]; rfl,AS.set_objs_same _ _ _,by rw [AS.set_objs_ne _ hwh.symm]; exact ho,AS.le_set hle hown _⟩
   ·rintro E3 s3 ⟨t,ht,hk,hq,g8,jw,jh,hle3⟩ -
    refine wK fun K5 hK5=>?_
    by_cases ht' : t < 16
    ·have hlt : (t : Int) < 16:=by omega
     refine jB (Ai @g8 (decide_eq_true hlt)) ?_
     refine jE ?_
     refine awp_skip ?_
     refine hK5 _ _ ?_;clear hK5 K5
     refine wK fun K6 hK6=>?_
     refine awp_block ?_
     have a0 : iadd .i64 ((64 * i : Nat) : Int) ((4 * t : Nat) : Int) = ((64 * i + 4 * t : Nat) : Int):=i64_add _ _ (by omega)
     have a1 : iadd .i64 ((64 * i + 4 * t : Nat) : Int) 1 = ((64 * i + 4 * t + 1 : Nat) : Int):=i64_add _ 1 (by omega)
     have a2 : iadd .i64 ((64 * i + 4 * t : Nat) : Int) 2 = ((64 * i + 4 * t + 2 : Nat) : Int):=i64_add _ 2 (by omega)
     have a3 : iadd .i64 ((64 * i + 4 * t : Nat) : Int) 3 = ((64 * i + 4 * t + 3 : Nat) : Int):=i64_add _ 3 (by omega)
     have hword : Sha.word c (Sha.sch c t) t = Sha.be32 (pl.getD (64 * i + 4 * t) 0).toNat (pl.getD (64 * i + 4 * t + 1) 0).toNat (pl.getD (64 * i + 4 * t + 2) 0).toNat (pl.getD (64 * i + 4 * t + 3) 0).toNat:=by
      rw [Sha.word,if_pos ht',hbg _ (by omega),hbg _ (by omega),hbg _ (by omega),hbg _ (by omega)]
      rfl
     have hset:=row_set c t (by omega)
     rw [hword] at hset
     simp only [wV] at hset
     rw [← be32_or] at hset
     have p0:=hpg (64 * i + 4 * t) (by omega)
     have p1:=hpg (64 * i + 4 * t + 1) (by omega)
     have p2:=hpg (64 * i + 4 * t + 2) (by omega)
     have p3:=hpg (64 * i + 4 * t + 3) (by omega)
     have b0 : ((64 * i + 4 * t : Nat) : Int) < ((64 * m : Nat) : Int):=by omega
     have b1 : ((64 * i + 4 * t + 1 : Nat) : Int) < ((64 * m : Nat) : Int):=by omega
     have b2 : ((64 * i + 4 * t + 2 : Nat) : Int) < ((64 * m : Nat) : Int):=by omega
     have b3 : ((64 * i + 4 * t + 3 : Nat) : Int) < ((64 * m : Nat) : Int):=by omega
     have q0 : (0 : Int)≤((64 * i + 4 * t : Nat) : Int):=by omega
     have q1 : (0 : Int)≤((64 * i + 4 * t + 1 : Nat) : Int):=by omega
     have q2 : (0 : Int)≤((64 * i + 4 * t + 2 : Nat) : Int):=by omega
     have q3 : (0 : Int)≤((64 * i + 4 * t + 3 : Nat) : Int):=by omega
     have ht0 : (0 : Int)≤(t : Int):=by omega
     have ht64 : (t : Int) < ((64 : Nat) : Int):=by omega
     have hlen:=row_len c t (by omega)
     generalize pl.getD (64 * i + 4 * t) 0 = x0 at *
     generalize pl.getD (64 * i + 4 * t + 1) 0 = x1 at *
     generalize pl.getD (64 * i + 4 * t + 2) 0 = x2 at *
     generalize pl.getD (64 * i + 4 * t + 3) 0 = x3 at *
     obtain ⟨R,hR⟩ : ∃ R,R = row c t:=⟨_,rfl⟩
     rw [← hR] at hset hlen jw
     refine jB (Ai @hk.h6 (Ai @g8 (Ai (i64_mul4 t (by omega)) @a0))) ?_
     refine awp_drw_end T.mixed [32] (by kernel_rfl) ?_
     intro K hK
     simp only [↓DM,pval,DX,Nz,↓DN,Qa,Qb,Qc,Qd,Qe,Qf,Qg,Qh,reduceCtorEq,↓reduceIte,Na,Nb,Nc,Nk,Nf,Ng,Nh,Za,Zb,Zc,TT,hk.h5,hq.h7,g8,a1,a2,a3,q0,q1,q2,q3,b0,b1,b2,b3,p0,p1,p2,p3,ht0,ht64,jw,hset,hlen]
     refine ⟨by omega,hK _ _ ?_⟩
     clear hK
     simp only [thenQ,blockQ,if_true,if_false]
     refine hK6 _ _ ?_;clear hK6 K6
     refine jD (Ai @g8 (w_succ t (by omega))) ?_
     refine ⟨⟨t + 1,by omega,(by repeat (first | exact hk | exact hq | refine Kp.upd ?_ (by decide) | refine Kq.upd ?_ (by decide))),(by repeat (first | exact hk | exact hq | refine Kp.upd ?_ (by decide) | refine Kq.upd ?_ (by decide))),by simp only [upd,↓reduceIte],AS.set_objs_same _ _ _,by rw [AS.set_objs_ne _ hwh.symm]; exact jh,AS.le_set hle3 hown _⟩,?_⟩
     simp only [g8,upd,↓reduceIte]
     omega
    ·have hlt : ¬ (t : Int) < 16:=by omega
     obtain rfl : t = 16:=by omega
     refine jB (Ai @g8 (decide_eq_false hlt)) ?_
     refine jF ?_
     refine awp_exit ?_
     simp only [thenQ,blockQ,if_true]
     clear hK5 K5
     refine hK4 _ _ ?_;clear hK4 K4
     have hk : Kp oh m pl (.own tk e) i (upd (upd E3 31 (AV.v (.int .i64 ((16 : Nat) : Int)))) 32 (AV.v (.bool false))):=(by repeat (first | exact hk | exact hq | refine Kp.upd ?_ (by decide) | refine Kq.upd ?_ (by decide)))
     have hq : Kq ow (upd (upd E3 31 (AV.v (.int .i64 ((16 : Nat) : Int)))) 32 (AV.v (.bool false))):=(by repeat (first | exact hk | exact hq | refine Kp.upd ?_ (by decide) | refine Kq.upd ?_ (by decide)))
     generalize (upd (upd E3 31 (AV.v (.int .i64 ((16 : Nat) : Int)))) 32 (AV.v (.bool false))) = E4 at *
     clear g8
     refine wK fun K4 hK4=>?_
     refine jA ?_
     refine awp_block ?_
     refine awp_loop (fun E s3=>∃ t : Nat,16≤t∧t≤64∧Kp oh m pl (.own tk e) i E∧Kq ow E∧E 10 = .v (.int .i64 t)∧s3.objs ow = some (row c t)∧s3.objs oh = some (stC st)∧s.le s3)
      (fun E _=>match E 10 with | .v (.int _ x)=>64 - x.toNat | _=>0) ?_ ?_
     ·exact ⟨16,by omega,by omega,(by repeat (first | exact hk | exact hq | refine Kp.upd ?_ (by decide) | refine Kq.upd ?_ (by decide))),(by repeat (first | exact hk | exact hq | refine Kp.upd ?_ (by decide) | refine Kq.upd ?_ (by decide))),by simp only [upd,↓reduceIte]; rfl,jw,jh,hle3⟩
     ·rintro E5 s4 ⟨t,ht,ht2,hk,hq,g10,jw,jh,hle4⟩ -
      refine wK fun K5 hK5=>?_
      by_cases ht' : t < 64
      ·have hlt : (t : Int) < 64:=by omega
       refine jB (Ai @g10 (decide_eq_true hlt)) ?_
       refine jE ?_
       refine awp_skip ?_
       refine hK5 _ _ ?_;clear hK5 K5
       refine wK fun K6 hK6=>?_
       refine awp_block ?_
       have ht0 : (0 : Int)≤(t : Int):=by omega
       have ht64 : (t : Int) < ((64 : Nat) : Int):=by omega
       have n2 : (0 : Int)≤((t - 2 : Nat) : Int):=by omega
       have n7 : (0 : Int)≤((t - 7 : Nat) : Int):=by omega
       have n15 : (0 : Int)≤((t - 15 : Nat) : Int):=by omega
       have n16 : (0 : Int)≤((t - 16 : Nat) : Int):=by omega
       have m2 : ((t - 2 : Nat) : Int) < ((64 : Nat) : Int):=by omega
       have m7 : ((t - 7 : Nat) : Int) < ((64 : Nat) : Int):=by omega
       have m15 : ((t - 15 : Nat) : Int) < ((64 : Nat) : Int):=by omega
       have m16 : ((t - 16 : Nat) : Int) < ((64 : Nat) : Int):=by omega
       have w2 : isub .i64 (t : Int) 2 = ((t - 2 : Nat) : Int):=i64_sub t 2 (by omega) (by omega)
       have w7 : isub .i64 (t : Int) 7 = ((t - 7 : Nat) : Int):=i64_sub t 7 (by omega) (by omega)
       have w15 : isub .i64 (t : Int) 15 = ((t - 15 : Nat) : Int):=i64_sub t 15 (by omega) (by omega)
       have w16 : isub .i64 (t : Int) 16 = ((t - 16 : Nat) : Int):=i64_sub t 16 (by omega) (by omega)
       have d2:=row_drop c t (t - 2) (by omega)
       have d7:=row_drop c t (t - 7) (by omega)
       have d15:=row_drop c t (t - 15) (by omega)
       have d16:=row_drop c t (t - 16) (by omega)
       have hw : Sha.word c (Sha.sch c t) t = Sha.add32 (Sha.add32 (Sha.add32 (Sha.sig2 ((Sha.sch c t).getD (t - 2) 0) 17 19 10) ((Sha.sch c t).getD (t - 7) 0)) (Sha.sig2 ((Sha.sch c t).getD (t - 15) 0) 7 18 3)) ((Sha.sch c t).getD (t - 16) 0):=by rw [Sha.word,if_neg (by omega)]
       have hset:=row_set c t ht'
       rw [hw] at hset
       have hlen:=row_len c t ht2
       have l2:=Sha.sch_getD_lt c t (t - 2)
       have l15:=Sha.sch_getD_lt c t (t - 15)
       generalize (Sha.sch c t).getD (t - 2) 0 = y at *
       generalize (Sha.sch c t).getD (t - 7) 0 = x7 at *
       generalize (Sha.sch c t).getD (t - 15) 0 = x at *
       generalize (Sha.sch c t).getD (t - 16) 0 = x16 at *
       obtain ⟨R,hR⟩ : ∃ R,R = row c t:=⟨_,rfl⟩
       rw [← hR] at d2 d7 d15 d16 hset hlen jw
       have y10 : ishr .u32 (y : Int) 10 = ((y / 2 ^ 10 : Nat) : Int):=wshr y 10 (by decide)
       have x3 : ishr .u32 (x : Int) 3 = ((x / 2 ^ 3 : Nat) : Int):=wshr x 3 (by decide)
       have v1:=wxor _ _ (Sha.rotr_lt 17 l2) (Sha.rotr_lt 19 l2)
       have v2:=wxor _ _ (Nat.xor_lt_two_pow (n:=32) (Sha.rotr_lt 17 l2) (Sha.rotr_lt 19 l2)) (Nat.lt_of_le_of_lt (Nat.div_le_self y (2 ^ 10)) l2)
       have v3:=wxor _ _ (Sha.rotr_lt 7 l15) (Sha.rotr_lt 18 l15)
       have v4:=wxor _ _ (Nat.xor_lt_two_pow (n:=32) (Sha.rotr_lt 7 l15) (Sha.rotr_lt 18 l15)) (Nat.lt_of_le_of_lt (Nat.div_le_self x (2 ^ 3)) l15)
       have u1 : (Sha.rotr y 17 ^^^ Sha.rotr y 19) ^^^ (y / 2 ^ 10) = Sha.sig2 y 17 19 10:=rfl
       have u2 : (Sha.rotr x 7 ^^^ Sha.rotr x 18) ^^^ (x / 2 ^ 3) = Sha.sig2 x 7 18 3:=rfl
       rw [u1] at v2
       rw [u2] at v4
       simp only [Nat.reducePow] at y10 x3 v2 v4
       refine awp_mrk_seq T.mixed [(ow,R)] [] [4,9] [] (by kernel_rfl) (by simp only [Pres_cons,Pres_nil,and_true]; simp [AS.set,upd,jw]) ?_
       intro K hK
       simp only [↓AXr_nil,↓AXr_cons,gval,lval,fzGet_cons,fzGet_nil,Pres_cons,Pres_nil,List.any_cons,List.any_nil,List.contains_cons,List.contains_nil,Nat.reduceBEq,Bool.or_false,Bool.or_true,Bool.or_self,Bool.false_or,↓DN,Qa,Qb,Qc,Qd,Qe,Qf,Qg,Qh,reduceCtorEq,↓reduceIte,Na,Nb,Nc,Nk,Nf,Ng,Nh,Za,Zb,Zc,TT,hq.h7,g10,w2,w15,n2,n15,m2,m15,d2,d15,jw]
       refine hK _ _ ?_;clear hK K
       refine awp_mrk_end T.mixed [(ow,R)] [3,5,17,19] [14,29] [32] (by kernel_rfl) (by simp only [Pres_cons,Pres_nil,and_true]; simp [AS.set,upd,jw]) ?_
       intro K hK
       simp only [↓AXr_nil,↓AXr_cons,gval,lval,fzGet_cons,fzGet_nil,Pres_cons,Pres_nil,List.any_cons,List.any_nil,List.contains_cons,List.contains_nil,Nat.reduceBEq,Bool.or_false,Bool.or_true,Bool.or_self,Bool.false_or,↓DN,Qa,Qb,Qc,Qd,Qe,Qf,Qg,Qh,reduceCtorEq,↓reduceIte,Na,Nb,Nc,Nk,Nf,Ng,Nh,Za,Zb,Zc,TT,hq.h7,g10,w7,w16,n7,n16,m7,m16,d7,d16,jw]
       refine acallk (right_calls y 17 l2 (by omega) (by omega) _) ?_
       rintro r sa ⟨rfl,rfl⟩
       simp only [↓AXq_nil,↓AXq_cons,pval,↓AXr_nil,↓AXr_cons,gval,lval,fzGet_cons,fzGet_nil,Pres_cons,Pres_nil,List.any_cons,List.any_nil,DX,Nat.reduceBEq,↓DN,Qa,Qb,Qc,Qd,Qe,Qf,Qg,Qh,reduceCtorEq,↓reduceIte,Na,Nb,Nc,Nk,Nf,Ng,Nh,Za,Zb,Zc,TT,hq.h7,g10,w7,w16,n7,n16,m7,m16,d7,d16,jw]
       refine acallk (right_calls y 19 l2 (by omega) (by omega) _) ?_
       rintro r sb ⟨rfl,rfl⟩
       simp only [↓AXq_nil,↓AXq_cons,pval,↓AXr_nil,↓AXr_cons,gval,lval,fzGet_cons,fzGet_nil,Pres_cons,Pres_nil,List.any_cons,List.any_nil,DX,Nat.reduceBEq,↓DN,Qa,Qb,Qc,Qd,Qe,Qf,Qg,Qh,reduceCtorEq,↓reduceIte,Na,Nb,Nc,Nk,Nf,Ng,Nh,Za,Zb,Zc,TT,hq.h7,g10,w7,w16,n7,n16,m7,m16,d7,d16,jw,y10,v1,v2,wadd]
       refine acallk (right_calls x 7 l15 (by omega) (by omega) _) ?_
       rintro r sc ⟨rfl,rfl⟩
       simp only [↓AXq_nil,↓AXq_cons,pval,↓AXr_nil,↓AXr_cons,gval,lval,fzGet_cons,fzGet_nil,Pres_cons,Pres_nil,List.any_cons,List.any_nil,DX,Nat.reduceBEq,↓DN,Qa,Qb,Qc,Qd,Qe,Qf,Qg,Qh,reduceCtorEq,↓reduceIte,Na,Nb,Nc,Nk,Nf,Ng,Nh,Za,Zb,Zc,TT,hq.h7,g10,w7,w16,n7,n16,m7,m16,d7,d16,jw,y10,v1,v2,wadd]
       refine acallk (right_calls x 18 l15 (by omega) (by omega) _) ?_
       rintro r sd ⟨rfl,rfl⟩
       simp only [↓AXq_nil,↓AXq_cons,pval,↓AXr_nil,↓AXr_cons,gval,lval,fzGet_cons,fzGet_nil,Pres_cons,Pres_nil,List.any_cons,List.any_nil,DX,Nat.reduceBEq,↓DN,Qa,Qb,Qc,Qd,Qe,Qf,Qg,Qh,reduceCtorEq,↓reduceIte,Na,Nb,Nc,Nk,Nf,Ng,Nh,Za,Zb,Zc,TT,hq.h7,g10,w7,w16,n7,n16,m7,m16,d7,d16,jw,x3,v3,v4,wadd,ht0,ht64,hset,hlen]
       refine ⟨by omega,hK _ _ ?_⟩
       clear hK
       simp only [thenQ,blockQ,if_true,if_false]
       refine hK6 _ _ ?_;clear hK6 K6
       refine jD (Ai @g10 (w_succ t (by omega))) ?_
       refine ⟨⟨t + 1,by omega,by omega,(by repeat (first | exact hk | exact hq | refine Kp.upd ?_ (by decide) | refine Kq.upd ?_ (by decide))),(by repeat (first | exact hk | exact hq | refine Kp.upd ?_ (by decide) | refine Kq.upd ?_ (by decide))),by simp only [upd,↓reduceIte],AS.set_objs_same _ _ _,by rw [AS.set_objs_ne _ hwh.symm]; exact jh,AS.le_set hle4 hown _⟩,?_⟩
       simp only [g10,upd,↓reduceIte]
       omega
      ·have hlt : ¬ (t : Int) < 64:=by omega
       obtain rfl : t = 64:=by omega
       refine jB (Ai @g10 (decide_eq_false hlt)) ?_
       refine jF ?_
       refine awp_exit ?_
       simp only [thenQ,blockQ,if_true]
       clear hK5 K5
       refine hK4 _ _ ?_;clear hK4 K4
       have hk : Kp oh m pl (.own tk e) i (upd (upd E5 71 (AV.v (.int .i64 ((64 : Nat) : Int)))) 72 (AV.v (.bool false))):=(by repeat (first | exact hk | exact hq | refine Kp.upd ?_ (by decide) | refine Kq.upd ?_ (by decide)))
       have hq : Kq ow (upd (upd E5 71 (AV.v (.int .i64 ((64 : Nat) : Int)))) 72 (AV.v (.bool false))):=(by repeat (first | exact hk | exact hq | refine Kp.upd ?_ (by decide) | refine Kq.upd ?_ (by decide)))
       generalize (upd (upd E5 71 (AV.v (.int .i64 ((64 : Nat) : Int)))) 72 (AV.v (.bool false))) = E6 at *
       clear g10
       rw [row_full] at jw
       obtain ⟨W,hW⟩ : ∃ W,W = Sha.sch c 64:=⟨_,rfl⟩
       have hWl : W.length = 64:=by rw [hW,Sha.sch_length]
       have hmix : Sha.mix st c = st.add (Sha.rounds W st 64):=by rw [hW]; rfl
       rw [← hW] at jw
       have hst8 : (stC st).length = 8:=rfl
       have htk8 : List.take 8 (stC st) = stC st:=rfl
       have hall8:=stC_all st
       refine jS (Ai @hk.h3 @jh) fun K hK=>?_
       intro tt htt
       refine hK _ _ ?_
       clear hK
       have hown2 : s.own tt = none:=by
        cases hs : s.own tt with
        | none=>rfl
        | some g=>rw [hle4.own _ _ hs] at htt; cases htt
       have hle5 : s.le (s4.gain tt 0):=AS.le_gain hle4 hown2 _
       have jw5 : (s4.gain tt 0).objs ow = some (W.map wV):=jw
       have jh5 : (s4.gain tt 0).objs oh = some (stC st):=jh
       generalize s4.gain tt 0 = s5 at *
       refine wK fun K4 hK4=>?_
       refine jA ?_
       refine awp_block ?_
       refine awp_loop (fun E s3=>∃ t : Nat,t≤64∧Kp oh m pl (.own tk e) i E∧Kq ow E∧(∃ sp',Kr (stC (Sha.rounds W st t)) sp' E)∧E 14 = .v (.int .i64 t)∧s3.objs ow = some (W.map wV)∧s3.objs oh = some (stC st)∧s.le s3)
        (fun E _=>match E 14 with | .v (.int _ x)=>64 - x.toNat | _=>0) ?_ ?_
       ·exact ⟨0,by omega,(by repeat (first | exact hk | exact hq | refine Kp.upd ?_ (by decide) | refine Kq.upd ?_ (by decide))),(by repeat (first | exact hk | exact hq | refine Kp.upd ?_ (by decide) | refine Kq.upd ?_ (by decide))),⟨.own tt 0,by refine Kr.upd ?_ (by decide); exact ⟨by simp only [upd,↓reduceIte]; rfl⟩⟩,by simp only [upd,↓reduceIte]; rfl,jw5,jh5,hle5⟩
       ·rintro E7 s6 ⟨t,ht,hk,hq,⟨sp',hv⟩,g14,jw,jh,hle6⟩ -
        refine wK fun K5 hK5=>?_
        have hus:=Sha.rounds_ok (w:=W) hst t
        have hnxr : Sha.rounds W st (t + 1) = (Sha.rounds W st t).step (Sha.K.getD t 0) (W.getD t 0):=rfl
        generalize hu : Sha.rounds W st t = u at *
        by_cases ht' : t < 64
        ·have hlt : (t : Int) < 64:=by omega
         refine jB (Ai @g14 (decide_eq_true hlt)) ?_
         refine jE ?_
         refine awp_skip ?_
         refine hK5 _ _ ?_;clear hK5 K5
         refine wK fun K6 hK6=>?_
         refine awp_block ?_
         have ht0 : (0 : Int)≤(t : Int):=by omega
         have ht64 : (t : Int) < ((64 : Nat) : Int):=by omega
         have hwd:=wget W t (by omega)
         have hkd:=wget Sha.K t (by rw [show Sha.K.length = 64 from rfl]; omega)
         generalize W.getD t 0 = wi at *
         generalize Sha.K.getD t 0 = ki at *
         obtain ⟨KL,hKL⟩ : ∃ KL,KL = Sha.K.map wV:=⟨_,rfl⟩
         obtain ⟨WL,hWL⟩ : ∃ WL,WL = W.map wV:=⟨_,rfl⟩
         have g4:=hk.h4
         rw [← hKL] at hkd g4
         rw [← hWL] at hwd jw
         have hkd1 : List.take 1 (List.drop t KL) = [wV ki]:=by rw [hkd]; rfl
         have g13:=hv.h13
         have lt2 : ∀ {a b : Nat},a < 4294967296→b < 4294967296→a &&& b < 4294967296:=fun {a b} ha hb=>Nat.lt_of_le_of_lt Nat.and_le_left ha
         have lx2 : ∀ {a b : Nat},a < 4294967296→b < 4294967296→a ^^^ b < 4294967296:=fun {a b} ha hb=>Nat.xor_lt_two_pow (n:=32) ha hb
         have hn : 4294967295 - u.e < 4294967296:=by omega
         have z1:=wxor _ _ (Sha.rotr_lt 6 hus.e) (Sha.rotr_lt 11 hus.e)
         have z2:=wxor _ _ (lx2 (Sha.rotr_lt 6 hus.e) (Sha.rotr_lt 11 hus.e)) (Sha.rotr_lt 25 hus.e)
         have z3 : (Sha.rotr u.e 6 ^^^ Sha.rotr u.e 11) ^^^ Sha.rotr u.e 25 = Sha.sig3 u.e 6 11 25:=rfl
         rw [z3] at z2
         have z4:=wxor _ _ (Sha.rotr_lt 2 hus.a) (Sha.rotr_lt 13 hus.a)
         have z5:=wxor _ _ (lx2 (Sha.rotr_lt 2 hus.a) (Sha.rotr_lt 13 hus.a)) (Sha.rotr_lt 22 hus.a)
         have z6 : (Sha.rotr u.a 2 ^^^ Sha.rotr u.a 13) ^^^ Sha.rotr u.a 22 = Sha.sig3 u.a 2 13 22:=rfl
         rw [z6] at z5
         refine awp_mrk_seq T.mixed [(ow,WL)] [6,10,15] [43] [] (by kernel_rfl) (by simp only [Pres_cons,Pres_nil,and_true]; simp [AS.set,upd,jw]) ?_
         intro K hK
         simp only [↓AXr_nil,↓AXr_cons,gval,lval,fzGet_cons,fzGet_nil,Pres_cons,Pres_nil,List.any_cons,List.any_nil,List.contains_cons,List.contains_nil,Nat.reduceBEq,Bool.or_false,Bool.or_true,Bool.or_self,Bool.false_or,↓DN,Qa,Qb,Qc,Qd,Qe,Qf,Qg,Qh,reduceCtorEq,↓reduceIte,Na,Nb,Nc,Nk,Nf,Ng,Nh,Za,Zb,Zc,TT,g13,c8,hq.h7,g14,g4,jw]
         refine acallk (right_calls u.e 6 hus.e (by omega) (by omega) _) ?_
         rintro r sa ⟨rfl,rfl⟩
         simp only [↓AXq_nil,↓AXq_cons,pval,↓AXr_nil,↓AXr_cons,gval,lval,fzGet_cons,fzGet_nil,Pres_cons,Pres_nil,List.any_cons,List.any_nil,DX,Nat.reduceBEq,↓DN,Qa,Qb,Qc,Qd,Qe,Qf,Qg,Qh,reduceCtorEq,↓reduceIte,Na,Nb,Nc,Nk,Nf,Ng,Nh,Za,Zb,Zc,TT,g13,c8,hq.h7,g14,g4,jw]
         refine acallk (right_calls u.e 11 hus.e (by omega) (by omega) _) ?_
         rintro r sb ⟨rfl,rfl⟩
         simp only [↓AXq_nil,↓AXq_cons,pval,↓AXr_nil,↓AXr_cons,gval,lval,fzGet_cons,fzGet_nil,Pres_cons,Pres_nil,List.any_cons,List.any_nil,DX,Nat.reduceBEq,↓DN,Qa,Qb,Qc,Qd,Qe,Qf,Qg,Qh,reduceCtorEq,↓reduceIte,Na,Nb,Nc,Nk,Nf,Ng,Nh,Za,Zb,Zc,TT,g13,c8,hq.h7,g14,g4,jw,z1]
         refine acallk (right_calls u.e 25 hus.e (by omega) (by omega) _) ?_
         rintro r sc ⟨rfl,rfl⟩
         simp only [↓AXq_nil,↓AXq_cons,pval,↓AXr_nil,↓AXr_cons,gval,lval,fzGet_cons,fzGet_nil,Pres_cons,Pres_nil,List.any_cons,List.any_nil,DX,Nat.reduceBEq,↓DN,Qa,Qb,Qc,Qd,Qe,Qf,Qg,Qh,reduceCtorEq,↓reduceIte,Na,Nb,Nc,Nk,Nf,Ng,Nh,Za,Zb,Zc,TT,g13,c8,hq.h7,g14,g4,jw,z1,z2,hkd1,hwd,ht0,ht64,wadd,wand u.e u.f hus.e hus.f,wnot u.e hus.e,wand (4294967295 - u.e) u.g hn hus.g,wxor (u.e &&& u.f) ((4294967295 - u.e) &&& u.g) (lt2 hus.e hus.f) (lt2 hn hus.g)]
         refine hK _ _ ?_;clear hK K
         refine awp_drw_seq T.mixed [3,7,12] (by kernel_rfl) ?_
         intro K hK
         simp only [↓DM,pval,DX,Nz,↓DN,Qa,Qb,Qc,Qd,Qe,Qf,Qg,Qh,reduceCtorEq,↓reduceIte,Na,Nb,Nc,Nk,Nf,Ng,Nh,Za,Zb,Zc,TT,g13,c8]
         refine acallk (right_calls u.a 2 hus.a (by omega) (by omega) _) ?_
         rintro r sa ⟨rfl,rfl⟩
         simp only [↓DM,pval,DX,Nz,↓DN,Qa,Qb,Qc,Qd,Qe,Qf,Qg,Qh,reduceCtorEq,↓reduceIte,Na,Nb,Nc,Nk,Nf,Ng,Nh,Za,Zb,Zc,TT,g13,c8]
         refine acallk (right_calls u.a 13 hus.a (by omega) (by omega) _) ?_
         rintro r sb ⟨rfl,rfl⟩
         simp only [↓DM,pval,DX,Nz,↓DN,Qa,Qb,Qc,Qd,Qe,Qf,Qg,Qh,reduceCtorEq,↓reduceIte,Na,Nb,Nc,Nk,Nf,Ng,Nh,Za,Zb,Zc,TT,g13,c8,z4]
         refine acallk (right_calls u.a 22 hus.a (by omega) (by omega) _) ?_
         rintro r sc ⟨rfl,rfl⟩
         refine jV (Ai @g13 (Ai @c8 (Ai @z4 (Ai @z5 (Ai @wadd (Ai (wand u.a u.b hus.a hus.b) (Ai (wand u.a u.c hus.a hus.c) (Ai (wand u.b u.c hus.b hus.c) (Ai (wxor (u.a &&& u.b) (u.a &&& u.c) (lt2 hus.a hus.b) (lt2 hus.a hus.c)) (wxor ((u.a &&& u.b) ^^^ (u.a &&& u.c)) (u.b &&& u.c) (lx2 (lt2 hus.a hus.b) (lt2 hus.a hus.c)) (lt2 hus.b hus.c))))))))))) hK ?_;clear hK K
         refine awp_drw_end T.mixed [] (by kernel_rfl) ?_
         intro K hK
         refine jV (Ai @g13 (Ai @c8 (Ai @wadd @rep8))) hK ?_;clear hK K
         simp only [thenQ,blockQ,if_true,if_false]
         refine hK6 _ _ ?_;clear hK6 K6
         refine jD (Ai @g14 (w_succ t (by omega))) ?_
         refine ⟨⟨t + 1,by omega,(by repeat (first | exact hk | exact hq | refine Kp.upd ?_ (by decide) | refine Kq.upd ?_ (by decide))),(by repeat (first | exact hk | exact hq | refine Kp.upd ?_ (by decide) | refine Kq.upd ?_ (by decide))),⟨.new,?_⟩,by simp only [upd,↓reduceIte],by rw [jw,hWL],jh,hle6⟩,?_⟩
         ·repeat (first | refine Kr.upd ?_ (by decide))
          refine ⟨?_⟩
          simp only [upd,↓reduceIte]
          rw [hnxr]
          rfl
         ·simp only [g14,upd,↓reduceIte]
          omega
        ·have hlt : ¬ (t : Int) < 64:=by omega
         obtain rfl : t = 64:=by omega
         refine jB (Ai @g14 (decide_eq_false hlt)) ?_
         refine jF ?_
         refine awp_exit ?_
         simp only [thenQ,blockQ,if_true]
         clear hK5 K5
         refine hK4 _ _ ?_;clear hK4 K4
         have hk : Kp oh m pl (.own tk e) i (upd (upd E7 120 (AV.v (.int .i64 ((64 : Nat) : Int)))) 121 (AV.v (.bool false))):=(by repeat (first | exact hk | exact hq | refine Kp.upd ?_ (by decide) | refine Kq.upd ?_ (by decide)))
         have hv : Kr (stC u) sp' (upd (upd E7 120 (AV.v (.int .i64 ((64 : Nat) : Int)))) 121 (AV.v (.bool false))):=(by repeat (first | exact hk | exact hq | exact hv | refine Kp.upd ?_ (by decide) | refine Kq.upd ?_ (by decide) | refine Kr.upd ?_ (by decide)))
         generalize (upd (upd E7 120 (AV.v (.int .i64 ((64 : Nat) : Int)))) 121 (AV.v (.bool false))) = E8 at *
         clear g14
         rw [hu] at hmix
         rw [← addL_zero st u] at jh
         refine jA ?_
         refine awp_block ?_
         refine awp_loop (fun E s3=>∃ t : Nat,t≤8∧Kp oh m pl (.own tk e) i E∧Kr (stC u) sp' E∧E 17 = .v (.int .i64 t)∧s3.objs oh = some (addL st u t)∧s.le s3)
          (fun E _=>match E 17 with | .v (.int _ x)=>8 - x.toNat | _=>0) ?_ ?_
         ·exact ⟨0,by omega,(by repeat (first | exact hk | exact hq | refine Kp.upd ?_ (by decide) | refine Kq.upd ?_ (by decide))),(by repeat (first | exact hk | exact hq | exact hv | refine Kp.upd ?_ (by decide) | refine Kq.upd ?_ (by decide) | refine Kr.upd ?_ (by decide))),by simp only [upd,↓reduceIte]; rfl,jh,hle6⟩
         ·rintro E9 s7 ⟨t,ht,hk,hv,g17,jh,hle7⟩ -
          refine wK fun K5 hK5=>?_
          by_cases ht' : t < 8
          ·have hlt : (t : Int) < 8:=by omega
           refine jB (Ai @g17 (decide_eq_true hlt)) ?_
           refine jE ?_
           refine awp_skip ?_
           refine hK5 _ _ ?_;clear hK5 K5
           refine wK fun K6 hK6=>?_
           refine awp_block ?_
           have ht0 : (0 : Int)≤(t : Int):=by omega
           have d2:=addL_drop st u t ht'
           have d5:=stC_drop u t ht'
           have hset:=addL_set st u t ht'
           have hlen:=addL_len st u t ht
           generalize st.list.getD t 0 = x at *
           generalize u.list.getD t 0 = y at *
           have g13:=hv.h13
           obtain ⟨X,hX⟩ : ∃ X,X = addL st u t:=⟨_,rfl⟩
           rw [← hX] at d2 hset hlen jh
           obtain ⟨Y,hY⟩ : ∃ Y,Y = stC u:=⟨_,rfl⟩
           rw [← hY] at d5 g13
           have d51 : List.take 1 (List.drop t Y) = [wV y]:=by rw [d5]; rfl
           refine awp_mrk_end T.mixed [(oh,X)] [] [5] [12] (by kernel_rfl) (by simp only [Pres_cons,Pres_nil,and_true]; simp [AS.set,upd,jh]) ?_
           intro K hK
           simp only [↓AXr_nil,↓AXr_cons,gval,lval,fzGet_cons,fzGet_nil,Pres_cons,Pres_nil,List.any_cons,List.any_nil,List.contains_cons,List.contains_nil,Nat.reduceBEq,Bool.or_false,Bool.or_true,Bool.or_self,Bool.false_or,↓DN,Qa,Qb,Qc,Qd,Qe,Qf,Qg,Qh,reduceCtorEq,↓reduceIte,Na,Nb,Nc,Nk,Nf,Ng,Nh,Za,Zb,Zc,TT,hk.h3,g17,g13,c8,ht0,hlt,d2,d51,jh,wadd,hset,hlen]
           refine ⟨by omega,hK _ _ ?_⟩
           clear hK
           simp only [thenQ,blockQ,if_true,if_false]
           refine hK6 _ _ ?_;clear hK6 K6
           refine jD (Ai @g17 (w_succ t (by omega))) ?_
           refine ⟨⟨t + 1,by omega,(by repeat (first | exact hk | exact hq | refine Kp.upd ?_ (by decide) | refine Kq.upd ?_ (by decide))),(by repeat (first | exact hk | exact hq | exact hv | refine Kp.upd ?_ (by decide) | refine Kq.upd ?_ (by decide) | refine Kr.upd ?_ (by decide))),by simp only [upd,↓reduceIte],AS.set_objs_same _ _ _,AS.le_set hle7 hoh _⟩,?_⟩
           simp only [g17,upd,↓reduceIte]
           omega
          ·have hlt : ¬ (t : Int) < 8:=by omega
           obtain rfl : t = 8:=by omega
           refine jB (Ai @g17 (decide_eq_false hlt)) ?_
           refine jF ?_
           refine awp_exit ?_
           simp only [thenQ,blockQ,if_true,if_false]
           refine hK3 _ _ ?_;clear hK3 hK5 K3 K5
           have h6:=hk.h6
           have hadd : iadd .i64 ((64 * i : Nat) : Int) 64 = ((64 * (i + 1) : Nat) : Int):=i64_add (64 * i) 64 (by omega)
           refine jD (Ai @h6 @hadd) ?_
           rw [addL_full,← hmix,← hnx] at jh
           refine ⟨⟨i + 1,hi',⟨by simp only [upd,hk.h3,Nc,↓reduceIte],by simp only [upd,hk.h4,Nc,↓reduceIte],by simp only [upd,hk.h5,Nc,↓reduceIte],by simp only [upd,↓reduceIte]⟩,jh,hle7⟩,?_⟩
           simp only [upd,↓reduceIte,Int.toNat_natCast,hmu]
           omega
  ·have hlt : ¬ ((64 * i : Nat) : Int) < ((64 * m : Nat) : Int):=by omega
   obtain rfl : i = m:=by omega
   refine jB (Ai @e6 (Ai @hk.h5 (decide_eq_false hlt))) ?_
   refine jF ?_
   refine awp_exit ?_
   simp only [thenQ,blockQ,if_true]
   clear hK2 K2
   refine hK _ _ ?_;clear hK K
   have h3:=hk.h3
   generalize Sha.hash pl i = u at *
   refine jA ?_
   refine wK fun K hK=>?_
   refine jA ?_
   refine awp_block ?_
   refine awp_loop (fun E s3=>∃ t : Nat,t≤8∧E 3 = .osl oh 0 1 8 8∧E 19 = .v (.int .i64 t)∧s3.objs oh = some (stC u)∧OutS s2 (outB u t) (E 18) s3)
    (fun E _=>match E 19 with | .v (.int _ x)=>8 - x.toNat | _=>0) ?_ ?_
   ·exact ⟨0,by omega,by simp only [upd,h3,Nc,↓reduceIte],by simp only [upd,↓reduceIte]; rfl,ho,AS.le.refl s2,.inl ⟨rfl,by simp only [upd,Nc,↓reduceIte]⟩⟩
   ·rintro E3 s3 ⟨t,ht,g3,g19,jh,pout⟩ -
    refine wK fun K5 hK5=>?_
    by_cases ht' : t < 8
    ·have hlt : (t : Int) < 8:=by omega
     have ht0 : (0 : Int)≤(t : Int):=by omega
     refine jB (Ai @g19 (decide_eq_true hlt)) ?_
     refine jE ?_
     refine awp_skip ?_
     refine hK5 _ _ ?_;clear hK5 K5
     refine wK fun K6 hK6=>?_
     refine awp_block ?_
     have d5:=stC_drop u t ht'
     have hsucc:=outB_succ u t ht'
     have hol:=outB_len u t ht
     generalize u.list.getD t 0 = x at *
     have s24 : ishr .u32 (x : Int) 24 = ((x / 2 ^ 24 : Nat) : Int):=wshr x 24 (by decide)
     have s16 : ishr .u32 (x : Int) 16 = ((x / 2 ^ 16 : Nat) : Int):=wshr x 16 (by decide)
     have s8 : ishr .u32 (x : Int) 8 = ((x / 2 ^ 8 : Nat) : Int):=wshr x 8 (by decide)
     generalize hr6 : E3 18 = r6 at pout
     obtain ⟨X,hX⟩ : ∃ X,X = stC u:=⟨_,rfl⟩
     rw [← hX] at d5 jh
     refine awp_mrk_end T.mixed [(oh,X)] [25] [4,10,16,22] [] (by kernel_rfl) (by simp only [Pres_cons,Pres_nil,and_true]; simp [AS.set,upd,jh]) ?_
     intro K hK
     simp only [↓AXr_nil,↓AXr_cons,gval,lval,fzGet_cons,fzGet_nil,Pres_cons,Pres_nil,List.any_cons,List.any_nil,List.contains_cons,List.contains_nil,Nat.reduceBEq,Bool.or_false,Bool.or_true,Bool.or_self,Bool.false_or,↓DN,Qa,Qb,Qc,Qd,Qe,Qf,Qg,Qh,reduceCtorEq,↓reduceIte,Na,Nb,Nc,Nk,Nf,Ng,Nh,Za,Zb,Zc,TT,g3,g19,c8,ht0,hlt,d5,jh,s24,s16,s8,rep4,hr6]
     refine aappend_out (ds:=Sha.be x) pout rfl (by simp only [Sha.be,List.map_cons,List.map_nil,byte_of]) T.c5 T.b5 (by rw [hol]; simp only [Sha.be,List.length_cons,List.length_nil]; omega) ?_
     intro r2 s6 h6
     rw [hsucc] at h6
     refine ⟨by rw [hX]; exact h6.1.objs _ _ ho,hK _ _ ?_⟩
     clear hK
     simp only [thenQ,blockQ,if_true,if_false]
     refine hK6 _ _ ?_;clear hK6 K6
     refine jD (Ai @g19 (w_succ t (by omega))) ?_
     refine ⟨⟨t + 1,by omega,by simp only [upd,g3,Nc,↓reduceIte],by simp only [upd,↓reduceIte],h6.1.objs _ _ ho,by simpa only [upd,Nc,↓reduceIte] using h6⟩,?_⟩
     simp only [g19,upd,↓reduceIte]
     omega
    ·have hlt : ¬ (t : Int) < 8:=by omega
     obtain rfl : t = 8:=by omega
     refine jB (Ai @g19 (decide_eq_false hlt)) ?_
     refine jF ?_
     refine awp_exit ?_
     simp only [thenQ,blockQ,if_true]
     clear hK5 K5
     refine hK _ _ ?_;clear hK K
     rw [outB_full,hsum] at pout
     obtain ⟨tz,ez,hz0⟩:=outS_own pout (by rw [← List.length_pos_iff,Sha.sum_length]; decide)
     refine jB @hz0 ?_
     refine jI ?_
     exact ⟨_,s,AV.weak.refl _,AS.le.trans hle pout.1,rfl,rfl⟩
end Go.Proofs.YtfjlmkifiihgkaaGreatDoor
namespace Go.Proofs.YtfjlmkifiihgkaaGreatDoor
open Go Go.AM Go.Proofs
variable {Γ : Nat→List AV}
theorem k102 : callable Tryz.prog 214 = true:=by kernel_rfl
theorem k105 : callable Tryz.prog 216 = true:=by kernel_rfl
theorem penSmall_len (k : Nat) (n : Int) (st : List UInt8 × Bool) : (penSmall k n st).1.length≤st.1.length + k:=by
 unfold penSmall penNum
 split
 ·split
  ·omega
  ·simp
 ·simp only; omega
theorem leafClo_calls (number : Int) (hn : -9223372036854775808≤number∧number≤9223372036854775807) (N : NodeV) (hl : N.unm.length≤2 ^ 61) (s0 s : AS) (p : Nat) (st : List UInt8 × Bool) (hst : st.1.length≤100) (h : PenS s0 s p st) :
  ACalls Tryz.prog Γ 214 [.ptr p 0,.rop [.v (.int .i64 number)],.rop N.cells] s (fun r s'=>r = .tup []∧PenS s0 s' p (nodePen N (penSmall 4 number st))):=by
 refine acalls_body Tryz.func214 rfl Tryz.ntmps214 Tryz.results214 (by simp) ?_
 have hw:=nodeWrite_calls (Γ:=Γ) N hl
 unfold NodeV.cells at *
 refine jQ fun K hK=>?_
 refine acallk (penU32_calls s0 s p st number hn (by omega) h) ?_
 rintro r s1 ⟨rfl,h1⟩
 refine jR hK ?_;clear hK K
 have hl4:=penSmall_len 4 number st
 refine jU @intsV.eq_1 fun K hK=>?_
 refine acallk (hw s0 s1 p _ (by omega) h1) ?_
 rintro r s2 ⟨rfl,h2⟩
 refine jR hK ?_;clear hK K
 simp only [retQ,AEnds,aresL,ares,List.toList_toArray,↓upd_same]; try simp only [UP,DF,Nc,↓reduceIte,DT]
 exact ⟨_,_,AV.weak.refl _,AS.le.refl _,rfl,h2⟩
theorem branchClo_calls (N : NodeV) (hl : N.unm.length≤2 ^ 61) (s0 s : AS) (p : Nat) (st : List UInt8 × Bool) (hst : st.1.length≤100) (h : PenS s0 s p st) :
  ACalls Tryz.prog Γ 216 [.ptr p 0,.rop N.cells] s (fun r s'=>r = .tup []∧PenS s0 s' p (nodePen N st)):=by
 refine acalls_body Tryz.func216 rfl Tryz.ntmps216 Tryz.results216 (by simp) ?_
 have hw:=nodeWrite_calls (Γ:=Γ) N hl
 unfold NodeV.cells at *
 refine jU @intsV.eq_1 fun K hK=>?_
 refine acallk (hw s0 s p _ (by omega) h) ?_
 rintro r s2 ⟨rfl,h2⟩
 refine jR hK ?_;clear hK K
 simp only [retQ,AEnds,aresL,ares,List.toList_toArray,↓upd_same]; try simp only [UP,DF,Nc,↓reduceIte,DT]
 exact ⟨_,_,AV.weak.refl _,AS.le.refl _,rfl,h2⟩
theorem octets19_calls (mark : Nat) (hm : mark < 256) (k : FuncId) (caps : List AV) (hk : callable Tryz.prog k = true) (F : List UInt8 × Bool)
  (hF : ∀ s0 s p,PenS s0 s p ([UInt8.ofNat mark],false)→ACalls Tryz.prog Γ k (.ptr p 0 :: caps) s (fun r s'=>r = .tup []∧PenS s0 s' p F)) (hl : F.1.length≤2 ^ 45) (s : AS) :
  ACalls Tryz.prog Γ 213 [.v (.int .i64 (mark : Int)),.clo k caps] s (fun r s'=>r = .tup [bytesV (if F.2 = true then [] else F.1) .any,.v (.bool !F.2)]∧s' = s):=by
 refine acalls_body Tryz.func213 rfl Tryz.ntmps213 Tryz.results213 (by simp) ?_
 have h0 : penSmall 1 (mark : Int) ([],false) = ([UInt8.ofNat mark],false):=by
  unfold penSmall
  rw [if_pos ⟨by omega,by omega⟩]
  simp [penNum,be]
 refine jA ?_
 refine jQ fun K hK=>?_
 refine acallk (new_calls s) ?_
 rintro r s1 ⟨p,rfl,q1⟩
 refine jR hK ?_;clear hK K
 refine jQ fun K hK=>?_
 refine acallk (penU8_calls s s1 p ([],false) (mark : Int) (by omega) (by simp) q1) ?_
 rintro r s2 ⟨rfl,q2⟩
 rw [h0] at q2
 refine jR hK ?_;clear hK K
 refine jS @hk fun K hK=>?_
 refine acallk (hF s s2 p q2) ?_
 rintro r s3 ⟨rfl,q3⟩
 refine jR hK ?_;clear hK K
 refine jK (penBytes_calls s s3 p _ hl q3) ?_;rintro s4 rfl
 refine jI ?_
 exact ⟨_,s,AV.weak.refl _,q3.le,rfl,rfl⟩
end Go.Proofs.YtfjlmkifiihgkaaGreatDoor
namespace Go.Proofs.YtfjlmkifiihgkaaGreatDoor
open Go Go.AM Go.Proofs
variable {Γ : Nat→List AV}
def leafB (number : Int) (N : NodeV) : List UInt8:=1 :: (be 4 number.toNat ++ N.text)
def branchB (N : NodeV) (l r : List UInt8) : List UInt8:=2 :: (N.text ++ (l ++ r))
def leafD (number : Int) (N : NodeV) : List UInt8:=if N.right∧0≤number∧number < 32 then Sha.sum (leafB number N) else []
def branchD (N : NodeV) (l r : List UInt8) : List UInt8:=if N.right then Sha.sum (branchB N l r) else []
theorem leaf_pen_good (number : Int) (N : NodeV) (hr : N.right) (h0 : 0≤number) (h1 : number < 4294967296) : nodePen N (penSmall 4 number ([1],false)) = (leafB number N,false):=by
 unfold nodePen penSmall
 rw [if_pos hr,if_pos ⟨h0,by omega⟩]
 simp [penNum,penRaw,leafB]
theorem leaf_pen_bad (number : Int) (N : NodeV) (h : ¬ (N.right∧0≤number∧number < 4294967296)) : (nodePen N (penSmall 4 number ([1],false))).2 = true:=by
 unfold nodePen
 by_cases hr : N.right
 ·rw [if_pos hr]
  have : ¬ (0≤number∧number < 2 ^ (8 * 4)):=fun e=>h ⟨hr,e.1,by have:=e.2; omega⟩
  unfold penSmall
  rw [if_neg this]
  rfl
 ·rw [if_neg hr]
theorem nodePen_len (N : NodeV) (st : List UInt8 × Bool) : (nodePen N st).1.length≤st.1.length + 100:=by
 unfold nodePen
 split
 ·rename_i hr
  have:=NodeV.text_len hr
  have:=penRaw_len N.text st
  omega
 ·simp only; omega
theorem leafHash_calls (hG0 : Γ 0 = stC Sha.H0) (hG : Γ 1 = Sha.K.map wV) (number : Int) (hn : -9223372036854775808≤number∧number≤9223372036854775807) (N : NodeV) (hl : N.unm.length≤2 ^ 61) (s : AS) :
  ACalls Tryz.prog Γ 148 [.v (.int .i64 number),.agg N.cells] s (fun r s'=>r = bytesV (leafD number N) .any∧s' = s):=by
 refine acalls_body Tryz.func148 rfl Tryz.ntmps148 Tryz.results148 (by simp) ?_
 have hcl:=fun s0 s p hp=>leafClo_calls (Γ:=Γ) number hn N hl s0 s p ([1],false) (by decide) hp
 have hlen : (nodePen N (penSmall 4 number ([1],false))).1.length≤2 ^ 45:=by
  have h1:=nodePen_len N (penSmall 4 number ([1],false))
  have h2:=penSmall_len 4 number ([1],false)
  simp only [List.length_cons,List.length_nil] at h2
  omega
 have hoc:=fun s=>octets19_calls (Γ:=Γ) 1 (by decide) _ _ k102 _ hcl hlen s
 have hgood:=leaf_pen_good number N
 have hbad:=leaf_pen_bad number N
 have hD : leafD number N = if N.right∧0≤number∧number < 32 then Sha.sum (leafB number N) else []:=rfl
 have hBl : N.right→(leafB number N).length≤105:=fun hr=>by have:=NodeV.text_len hr; simp [leafB]; omega
 clear hcl
 generalize nodePen N (penSmall 4 number ([1],false)) = F at *
 generalize leafD number N = D at *
 generalize leafB number N = B at *
 unfold NodeV.cells at *
 refine awp_reg_frz2 2 3 (by decide) (by decide) (by decide) ?_
 intro K hK
 simp only [↓DM,pval,DX,Nz,↓DN,Qa,Qb,Qc,Qd,Qe,Qf,Qg,Qh,reduceCtorEq,↓reduceIte,Na,Nb,Nc,Nk,Nf,Ng,Nh,Za,Zb,Zc,TT,intsV]
 intro o1 h1 o2 h2
 refine hK _ _ o1 o2 _ _ (by simp only [upd,Nc,↓reduceIte]) (by simp only [upd,Nc,↓reduceIte]) h1 (by rw [AS.set_objs_eq]; exact h2) ?_
 clear hK K h1 h2
 refine jS @intsV.eq_1 fun K hK=>?_
 refine acallk (hoc _) ?_
 rintro r s1 ⟨rfl,rfl⟩
 by_cases hg : N.right∧0≤number∧number < 4294967296
 ·have hF:=hgood hg.1 hg.2.1 hg.2.2
  rw [hF]
  refine jR hK ?_;clear hK K
  refine wK fun K hK=>?_
  by_cases h32 : number < 32
  ·refine jB (decide_eq_false (show ¬ (32 : Int)≤number by omega)) ?_
   refine jF ?_
   refine awp_skip ?_
   refine hK _ _ ?_;clear hK K
   have hDD : D = Sha.sum B:=by rw [hD,if_pos ⟨hg.1,hg.2.1,h32⟩]
   have hbl:=hBl hg.1
   have hsm:=sum_calls (Γ:=Γ) hG0 hG [B] .new (by simp) (by simp; omega) s1
   rw [show [B].flatten = B from by simp,← hDD] at hsm
   refine wS fun K hK=>?_
   simp only [↓DN,Qa,Qb,Qc,Qd,Qe,Qf,Qg,Qh,reduceCtorEq,↓reduceIte,Na,Nb,Nc,Nk,Nf,Ng,Nh,Za,Zb,Zc,TT,List.replicate_one]
   refine acallk hsm ?_
   intro r s2 hout
   have hsl : D.length = 32:=by rw [hDD]; exact Sha.sum_length B
   have hw:=hout.weak
   have hle:=hout.1
   obtain ⟨t,e,rfl⟩:=outS_own hout (by rw [← List.length_pos_iff,hsl]; decide)
   refine jR hK ?_;clear hK K
   refine jI ?_
   exact ⟨_,s1,hw,hle,rfl,rfl⟩
  ·refine jB (decide_eq_true (show (32 : Int)≤number by omega)) ?_
   refine jE ?_
   refine jA ?_
   refine jI ?_
   refine ⟨bytesV [] .any,_,AV.weak_nil,AS.le.refl _,?_,rfl⟩
   rw [hD,if_neg (fun h=>h32 h.2.2)]
   rfl
 ·have hF:=hbad hg
  rw [hF]
  refine jR hK ?_;clear hK K
  refine wK fun K hK=>?_
  refine jA ?_
  refine jE ?_
  refine jA ?_
  refine jI ?_
  refine ⟨bytesV [] .any,_,AV.weak_nil,AS.le.refl _,?_,rfl⟩
  rw [hD,if_neg (fun h=>hg ⟨h.1,h.2.1,by omega⟩)]
  rfl
theorem partsB_tri (a b c : List UInt8) : PartsB [a,b,c] = [bytesV a .any,bytesV b .any,bytesV c .any]:=rfl
theorem branchHash_calls (hG0 : Γ 0 = stC Sha.H0) (hG : Γ 1 = Sha.K.map wV) (N : NodeV) (hl : N.unm.length≤2 ^ 61) (x y : List UInt8) (hxy : x.length + y.length≤2 ^ 30) (s : AS) :
  ACalls Tryz.prog Γ 149 [.agg N.cells,bytesV x .any,bytesV y .any] s (fun r s'=>r = bytesV (branchD N x y) .any∧s' = s):=by
 refine acalls_body Tryz.func149 rfl Tryz.ntmps149 Tryz.results149 (by simp) ?_
 have hcl:=fun s0 s p hp=>branchClo_calls (Γ:=Γ) N hl s0 s p ([2],false) (by decide) hp
 have hlen : (nodePen N ([2],false)).1.length≤2 ^ 45:=by
  have h1:=nodePen_len N ([2],false)
  simp only [List.length_cons,List.length_nil] at h1
  omega
 have hoc:=fun s=>octets19_calls (Γ:=Γ) 2 (by decide) _ _ k105 _ hcl hlen s
 have hD : branchD N x y = if N.right then Sha.sum (branchB N x y) else []:=rfl
 have hB : branchB N x y = (2 :: N.text) ++ (x ++ y):=rfl
 have hT:=fun hr=>NodeV.text_len (N:=N) hr
 have hgood : N.right→nodePen N ([2],false) = (2 :: N.text,false):=fun hr=>by unfold nodePen; rw [if_pos hr]; rfl
 have hbad : ¬ N.right→(nodePen N ([2],false)).2 = true:=fun hr=>by unfold nodePen; rw [if_neg hr]
 clear hcl
 generalize nodePen N ([2],false) = F at *
 generalize branchD N x y = D at *
 generalize branchB N x y = B at *
 have hpre : N.right→(2 :: N.text).length≤101:=fun hr=>by have:=hT hr; simp; omega
 generalize (2 :: N.text) = pre at *
 unfold NodeV.cells at *
 refine awp_reg_frz 3 (by simp [dsts]) ?_
 intro K hK
 simp only [↓DM,pval,DX,Nz,↓DN,Qa,Qb,Qc,Qd,Qe,Qf,Qg,Qh,reduceCtorEq,↓reduceIte,Na,Nb,Nc,Nk,Nf,Ng,Nh,Za,Zb,Zc,TT,intsV]
 intro o ho
 refine hK _ _ o _ (by simp only [upd,Nc,↓reduceIte]) ho ?_
 clear hK K ho
 refine jS @intsV.eq_1 fun K hK=>?_
 refine acallk (hoc _) ?_
 rintro r s1 ⟨rfl,rfl⟩
 by_cases hg : N.right
 ·rw [hgood hg]
  refine jR hK ?_;clear hK K
  refine wK fun K hK=>?_
  refine jA ?_
  refine jF ?_
  refine awp_skip ?_
  refine hK _ _ ?_;clear hK K
  have hDD : D = Sha.sum B:=by rw [hD,if_pos hg]
  have hpl:=hpre hg
  have hsm:=sum_calls (Γ:=Γ) hG0 hG [pre,x,y] .new (by simp) (by simp; omega) s1
  rw [show [pre,x,y].flatten = B from by rw [hB]; simp,← hDD,partsB_tri] at hsm
  refine wS fun K hK=>?_
  simp only [↓DN,Qa,Qb,Qc,Qd,Qe,Qf,Qg,Qh,reduceCtorEq,↓reduceIte,Na,Nb,Nc,Nk,Nf,Ng,Nh,Za,Zb,Zc,TT,List.replicate_succ,List.replicate_zero]
  refine acallk hsm ?_
  intro r s2 hout
  have hsl : D.length = 32:=by rw [hDD]; exact Sha.sum_length B
  have hw:=hout.weak
  have hle:=hout.1
  obtain ⟨t,e,rfl⟩:=outS_own hout (by rw [← List.length_pos_iff,hsl]; decide)
  refine jR hK ?_;clear hK K
  refine jI ?_
  exact ⟨_,s1,hw,hle,rfl,rfl⟩
 ·rw [hbad hg]
  refine jR hK ?_;clear hK K
  refine wK fun K hK=>?_
  refine jA ?_
  refine jE ?_
  refine jA ?_
  refine jI ?_
  refine ⟨bytesV [] .any,_,AV.weak_nil,AS.le.refl _,?_,rfl⟩
  rw [hD,if_neg hg]
  rfl
end Go.Proofs.YtfjlmkifiihgkaaGreatDoor
namespace Go.Proofs.YtfjlmkifiihgkaaGreatDoor
open Go Go.AM Go.Proofs
variable {Γ : Nat→List AV}
theorem refLeafHash_calls (n : Nat) (hn : n < 32) (N : NodeV) (hr : N.right) (s : AS) :
  ACalls Tryz.prog Γ 80 [.v (.int .i64 (n : Int)),.agg N.cells] s (fun r s'=>r = .v (.string ⟨(Sha.sum (leafB (n : Int) N)).toArray⟩)∧s' = s):=by
 refine acalls_body Tryz.func80 rfl Tryz.ntmps80 Tryz.results80 (by simp) ?_
 have hw:=fun s=>refNodeWrite_calls (Γ:=Γ) N hr s
 have hT:=NodeV.text_len hr
 have hB : leafB (n : Int) N = 1 :: (be 4 n ++ N.text):=rfl
 have hbl : (leafB (n : Int) N).length≤110:=by rw [hB]; simp; omega
 have hsm:=fun s=>refSum_calls (Γ:=Γ) (leafB (n : Int) N) (by omega) s
 rw [hB] at hsm hbl
 rw [show leafB (n : Int) N = 1 :: (be 4 n ++ N.text) from rfl]
 generalize N.text = tx at *
 unfold NodeV.cells at *
 refine awp_reg_frz 3 (by simp [dsts]) ?_
 intro K hK
 simp only [↓DM,pval,DX,Nz,↓DN,Qa,Qb,Qc,Qd,Qe,Qf,Qg,Qh,reduceCtorEq,↓reduceIte,Na,Nb,Nc,Nk,Nf,Ng,Nh,Za,Zb,Zc,TT,intsV]
 intro o ho
 refine hK _ _ o _ (by simp only [upd,Nc,↓reduceIte]) ho ?_
 clear hK K ho
 refine awp_drw_seq T.mixed [2,5,7] (by kernel_rfl) ?_
 intro K hK
 simp only [↓DM,pval,DX,Nz,↓DN,Qa,Qb,Qc,Qd,Qe,Qf,Qg,Qh,reduceCtorEq,↓reduceIte,Na,Nb,Nc,Nk,Nf,Ng,Nh,Za,Zb,Zc,TT,intsV,iconv_u64_nat n (show n < 2 ^ 64 by omega)]
 refine acallk (refNumber_calls n 4 (by omega) (by omega) _) ?_
 rintro r s1 ⟨rfl,rfl⟩
 simp only [↓DM,pval,DX,Nz,↓DN,Qa,Qb,Qc,Qd,Qe,Qf,Qg,Qh,reduceCtorEq,↓reduceIte,Na,Nb,Nc,Nk,Nf,Ng,Nh,Za,Zb,Zc,TT,intsV,length_be]
 refine acallk (hw _) ?_
 rintro r s2 ⟨rfl,rfl⟩
 simp only [↓DM,pval,DX,Nz,↓DN,Qa,Qb,Qc,Qd,Qe,Qf,Qg,Qh,reduceCtorEq,↓reduceIte,Na,Nb,Nc,Nk,Nf,Ng,Nh,Za,Zb,Zc,TT,intsV,length_be,i64_room (show 4 + 1 + tx.length < 2 ^ 62 by omega),i64_room (show 5 + tx.length < 2 ^ 62 by omega)]
 refine acallk (hsm _) ?_
 rintro r s3 ⟨rfl,rfl⟩
 refine jR hK ?_;clear hK K
 exact jJ
theorem refBranchHash_calls (N : NodeV) (hr : N.right) (x y : List UInt8) (hxy : x.length + y.length≤2 ^ 30) (s : AS) :
  ACalls Tryz.prog Γ 81 [.agg N.cells,.v (.string ⟨x.toArray⟩),.v (.string ⟨y.toArray⟩)] s (fun r s'=>r = .v (.string ⟨(Sha.sum (branchB N x y)).toArray⟩)∧s' = s):=by
 refine acalls_body Tryz.func81 rfl Tryz.ntmps81 Tryz.results81 (by simp) ?_
 have hw:=fun s=>refNodeWrite_calls (Γ:=Γ) N hr s
 have hT:=NodeV.text_len hr
 have hB : branchB N x y = 2 :: (N.text ++ (x ++ y)):=rfl
 have hsm:=fun s=>refSum_calls (Γ:=Γ) (branchB N x y) (by rw [hB]; simp; omega) s
 rw [hB] at hsm ⊢
 generalize N.text = tx at *
 unfold NodeV.cells at *
 refine awp_reg_frz 3 (by simp [dsts]) ?_
 intro K hK
 simp only [↓DM,pval,DX,Nz,↓DN,Qa,Qb,Qc,Qd,Qe,Qf,Qg,Qh,reduceCtorEq,↓reduceIte,Na,Nb,Nc,Nk,Nf,Ng,Nh,Za,Zb,Zc,TT,intsV]
 intro o ho
 refine hK _ _ o _ (by simp only [upd,Nc,↓reduceIte]) ho ?_
 clear hK K ho
 refine jS @intsV.eq_1 fun K hK=>?_
 refine acallk (hw _) ?_
 rintro r s2 ⟨rfl,rfl⟩
 simp only [↓DM,pval,DX,Nz,↓DN,Qa,Qb,Qc,Qd,Qe,Qf,Qg,Qh,reduceCtorEq,↓reduceIte,Na,Nb,Nc,Nk,Nf,Ng,Nh,Za,Zb,Zc,TT,intsV,i64_room (show 1 + tx.length < 2 ^ 62 by omega),i64_room (show tx.length + 1 + x.length < 2 ^ 62 by omega),i64_room (show tx.length + (x.length + 1) + y.length < 2 ^ 62 by omega),i64_room (show tx.length + x.length + 1 + y.length < 2 ^ 62 by omega)]
 refine acallk (hsm _) ?_
 rintro r s3 ⟨rfl,rfl⟩
 refine jR hK ?_;clear hK K
 exact jJ
end Go.Proofs.YtfjlmkifiihgkaaGreatDoor
