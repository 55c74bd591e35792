/- Contracts of the program's functions, each walked once; the conditions stand in each theorem. -/
import Derived.Test.YtoagkleecgngdaaGreatDoorAMp6
import Derived.Test.YtoagkleecgngdaaGreatDoorW1
import Derived.Test.YtoagkleecgngdaaGreatDoorW5
import Derived.Test.YtoagkleecgngdaaGreatDoorW3
set_option linter.unusedSimpArgs false
set_option linter.unusedVariables false
open Nat renaming reduceLT → Na, reduceLeDiff → Nb, reduceEqDiff → Nc, reduceAdd → Nk, reduceMul → Nf, reducePow → Ng, reduceSub → Nh
open Int renaming reduceLT → Za, reduceLE → Zb, reduceToNat → Zc
open Go.AM renaming ashift → Qa, aconv → Qb, aindexAddr → Qc, aindex → Qd, aslice → Qe, abuiltin → Qf, awp_reg_seq → wS, awp_reg_end → wE, awp_seq_k → wK, awp_cond_k → wC
open Go.AM.AV renaming cells → Qg, one → Qh
set_option autoImplicit false
namespace Go.Proofs.YtoagkleecgngdaaGreatDoor
open Go Go.AM Go.Proofs


variable {Γ : Nat → List AV}

theorem be32_or (a b c d : UInt8) : ior .u32 (ior .u32 (ior .u32 (ishl .u32 (iconv .u32 (a.toNat : Int)) 24) (ishl .u32 (iconv .u32 (b.toNat : Int)) 16)) (ishl .u32 (iconv .u32 (c.toNat : Int)) 8)) (iconv .u32 (d.toNat : Int)) = ((Sha.be32 a.toNat b.toNat c.toNat d.toNat : Nat) : Int) := by
  have ha := a.toNat_lt; have hb := b.toNat_lt; have hc := c.toNat_lt; have hd := d.toNat_lt
  have e1 : ∀ x : UInt8, iconv .u32 (x.toNat : Int) = ((x.toNat : Nat) : Int) := fun x => by
    have := x.toNat_lt
    rw [iconv_u rfl]
    simp only [IntKind.bits]
    congr 1
    omega
  have s24 : ∀ x : Nat, x < 256 → ishl .u32 (x : Int) 24 = ((x * 16777216 : Nat) : Int) := fun x hx => by
    have := wshl x 24 (by decide)
    rw [show ((24 : Nat) : Int) = 24 from rfl] at this
    rw [this]
    congr 1
    simp only [Nat.reducePow]
    omega
  have s16 : ∀ x : Nat, x < 256 → ishl .u32 (x : Int) 16 = ((x * 65536 : Nat) : Int) := fun x hx => by
    have := wshl x 16 (by decide)
    rw [show ((16 : Nat) : Int) = 16 from rfl] at this
    rw [this]
    congr 1
    simp only [Nat.reducePow]
    omega
  have s8 : ∀ x : Nat, x < 256 → ishl .u32 (x : Int) 8 = ((x * 256 : Nat) : Int) := fun x hx => by
    have := wshl x 8 (by decide)
    rw [show ((8 : Nat) : Int) = 8 from rfl] at this
    rw [this]
    congr 1
    simp only [Nat.reducePow]
    omega
  rw [e1, e1, e1, e1]
  generalize a.toNat = a at *
  generalize b.toNat = b at *
  generalize c.toNat = c at *
  generalize d.toNat = d at *
  rw [s24 a ha, s16 b hb, s8 c hc]
  have o1 : a * 16777216 ||| b * 65536 = a * 16777216 + b * 65536 := by
    have := Nat.shiftLeft_add_eq_or_of_lt (b := b * 65536) (i := 24) (by simp only [Nat.reducePow]; omega) a
    rw [Nat.shiftLeft_eq] at this
    simp only [Nat.reducePow] at this
    exact this.symm
  have o2 : (a * 16777216 + b * 65536) ||| c * 256 = a * 16777216 + b * 65536 + c * 256 := by
    have := Nat.shiftLeft_add_eq_or_of_lt (b := c * 256) (i := 16) (by simp only [Nat.reducePow]; omega) (a * 256 + b)
    rw [Nat.shiftLeft_eq] at this
    simp only [Nat.reducePow] at this
    have e : (a * 256 + b) * 65536 = a * 16777216 + b * 65536 := by simp only [Nat.add_mul, Nat.mul_assoc, Nat.reduceMul]
    rw [e] at this
    exact this.symm
  have o3 : (a * 16777216 + b * 65536 + c * 256) ||| d = a * 16777216 + b * 65536 + c * 256 + d := by
    have := Nat.shiftLeft_add_eq_or_of_lt (b := d) (i := 8) (by simp only [Nat.reducePow]; omega) (a * 65536 + b * 256 + c)
    rw [Nat.shiftLeft_eq] at this
    simp only [Nat.reducePow] at this
    have e : (a * 65536 + b * 256 + c) * 256 = a * 16777216 + b * 65536 + c * 256 := by simp only [Nat.add_mul, Nat.mul_assoc, Nat.reduceMul]
    rw [e] at this
    exact this.symm
  rw [wor _ _ (by omega) (by omega), o1, wor _ _ (by omega) (by omega), o2, wor _ _ (by omega) (by omega), o3, Sha.be32]
  simp only [Nat.add_mul, Nat.mul_assoc, Nat.reduceMul]

/-- What the outer round keeps. -/
structure Kp (oh m : Nat) (pl : List UInt8) (sp : Sp) (i : Nat) (E : Env) : Prop where
  h3 : E 3 = .osl oh 0 1 8 8
  h4 : E 4 = .sl 1 64 (Sha.K.map wV) .no
  h5 : E 5 = .sl 1 (64 * m) (pl.map byteV) sp
  h6 : E 6 = .v (.int .i64 ((64 * i : Nat) : Int))
theorem Kp.upd {oh m i d : Nat} {pl : List UInt8} {sp : Sp} {E : Env} {v : AV} (h : Kp oh m pl sp i E) (hd : d ≠ 3 ∧ d ≠ 4 ∧ d ≠ 5 ∧ d ≠ 6) : Kp oh m pl sp i (upd E d v) :=
  ⟨by rw [upd_ne _ _ (Ne.symm hd.1)]; exact h.h3, by rw [upd_ne _ _ (Ne.symm hd.2.1)]; exact h.h4, by rw [upd_ne _ _ (Ne.symm hd.2.2.1)]; exact h.h5, by rw [upd_ne _ _ (Ne.symm hd.2.2.2)]; exact h.h6⟩
structure Kq (ow : Nat) (E : Env) : Prop where
  h7 : E 7 = .osl ow 0 1 64 64
theorem Kq.upd {ow d : Nat} {E : Env} {v : AV} (h : Kq ow E) (hd : d ≠ 7) : Kq ow (upd E d v) := ⟨by rw [upd_ne _ _ (Ne.symm hd)]; exact h.h7⟩
structure Kr (cs : List AV) (sp : Sp) (E : Env) : Prop where
  h13 : E 13 = .sl 1 8 cs sp
theorem Kr.upd {cs : List AV} {sp : Sp} {d : Nat} {E : Env} {v : AV} (h : Kr cs sp E) (hd : d ≠ 13) : Kr cs sp (upd E d v) := ⟨by rw [upd_ne _ _ (Ne.symm hd)]; exact h.h13⟩
theorem bget (l : List UInt8) (i : Nat) (h : i < l.length) : List.take 1 (List.drop i (l.map byteV)) = [.v (.int .u8 ((l.getD i 0).toNat : Int))] := by
  have : (l.map byteV)[i]? = some (byteV (l.getD i 0)) := by
    rw [List.getElem?_map, List.getElem?_eq_getElem h]
    simp only [Option.map_some, List.getD, List.getElem?_eq_getElem h, Option.getD_some]
  rw [drop_cons _ _ _ this]
  rfl
theorem bget' (l : List UInt8) (i : Nat) (h : i < l.length) : List.map byteV (List.take 1 (List.drop i l)) = [.v (.int .u8 ((l.getD i 0).toNat : Int))] := by
  rw [List.map_take, List.map_drop]
  exact bget l i h
theorem blk_getD (l : List UInt8) (i j : Nat) (h : j < 64) (hl : 64 * i + j < l.length) : (Sha.blk l i).getD j 0 = l.getD (64 * i + j) 0 := by
  simp only [Sha.blk, List.getD_eq_getElem?_getD, List.getElem?_take, if_pos h, List.getElem?_drop]

theorem rep8 (x : AV) : List.replicate 8 x = [x, x, x, x, x, x, x, x] := rfl
theorem wget (l : List Nat) (i : Nat) (h : i < l.length) : List.drop i (l.map wV) = wV (l.getD i 0) :: List.drop (i + 1) (l.map wV) := drop_cons _ _ _ (map_getD l i h)
set_option maxHeartbeats 8000000 in
set_option maxRecDepth 100000 in
theorem refSum_calls (l : List UInt8) (hl : l.length ≤ 2 ^ 40) (s : AS) :
    ACalls Tryz.prog Γ 57 [.v (.string ⟨l.toArray⟩)] s (fun r s' => r = .v (.string ⟨(Sha.sum l).toArray⟩) ∧ s' = s) := by
  refine acalls_body Tryz.func57 rfl Tryz.ntmps57 Tryz.results57 (by simp) ?_
  refine wS fun K hK => ?_
  simp only [↓DN,UP,DF,Qa,Qb,Qc,Qd,Qe,Qf,Qg,Qh,reduceCtorEq,↓reduceIte,Na,Nb,Nc,Nk,Nf,Ng,Nh,Za,Zb,Zc,TT]
  refine hK _ _ ?_;clear hK K
  refine awp_reg_mid0 rfl (by decide) (fun r s' => ∃ ob, s.objs ob = none ∧ r = .osl ob 0 (Tryz.prog.cellsOf 185) 8 8 ∧ s' = s.set ob (stC Sha.H0)) (fun G a w hr => ?_) ?_
  · exact lit_obj_res (cs := stC Sha.H0) (e := 185) rfl Tryz.underlying195 T.z185 (by rw [T.c185]; decide) (by rw [T.c185]; decide) (by rw [T.c185]; rfl) (by simp only [T.c185]; rfl) hr.eval hr.st
  rw [T.c185]
  rintro r s1 ⟨oh, hoh, rfl, rfl⟩
  simp only [↓AXq_nil,↓AXq_cons,pval,DX,Nat.reduceBEq,↓DN,UP,DF,Qa,Qb,Qc,Qd,Qe,Qf,Qg,Qh,reduceCtorEq,↓reduceIte,Na,Nb,Nc,Nk,Nf,Ng,Nh,Za,Zb,Zc,TT]
  refine wS fun K hK => ?_
  simp only [↓DN,UP,DF,Qa,Qb,Qc,Qd,Qe,Qf,Qg,Qh,reduceCtorEq,↓reduceIte,Na,Nb,Nc,Nk,Nf,Ng,Nh,Za,Zb,Zc,TT]
  refine acallk (refK_calls _) ?_
  rintro r s2 ⟨rfl, rfl⟩
  simp only [↓AXq_nil,↓AXq_cons,pval,DX,Nat.reduceBEq,↓DN,UP,DF,Qa,Qb,Qc,Qd,Qe,Qf,Qg,Qh,reduceCtorEq,↓reduceIte,Na,Nb,Nc,Nk,Nf,Ng,Nh,Za,Zb,Zc,TT]
  refine hK _ _ ?_;clear hK K
  refine wS fun K hK => ?_
  simp only [↓DN,UP,DF,Qa,Qb,Qc,Qd,Qe,Qf,Qg,Qh,reduceCtorEq,↓reduceIte,Na,Nb,Nc,Nk,Nf,Ng,Nh,Za,Zb,Zc,TT]
  refine acallk (octets_calls l (by omega) _) ?_
  intro r s1 hout
  have hpl := Sha.pad_length l
  have hpm := Sha.pad_mod l
  obtain ⟨m, hm⟩ : ∃ m, (Sha.pad l).length = 64 * m := ⟨(Sha.pad l).length / 64, by omega⟩
  have hz : Sha.zeros l.length < 64 := by rw [Sha.zeros]; omega
  have hm40 : 64 * m ≤ 2 ^ 41 := by omega
  obtain ⟨tk, e, hr0⟩ := outS_own hout (by rw [← List.length_pos_iff]; omega)
  rw [hm] at hr0
  subst hr0
  have hle : s.le s1 := AS.le.trans (AS.le_set (AS.le.refl s) hoh _) hout.1
  have hobj : s1.objs oh = some (stC Sha.H0) := hout.1.objs _ _ (AS.set_objs_same _ _ _)
  clear hout
  simp only [↓AXq_nil,↓AXq_cons,pval,DX,Nat.reduceBEq,↓DN,UP,DF,Qa,Qb,Qc,Qd,Qe,Qf,Qg,Qh,reduceCtorEq,↓reduceIte,Na,Nb,Nc,Nk,Nf,Ng,Nh,Za,Zb,Zc,TT]
  refine hK _ _ ?_;clear hK K
  have hsum : (Sha.hash (Sha.pad l) m).bytes = Sha.sum l := by rw [Sha.sum, hm, Nat.mul_div_cancel_left _ (by decide)]
  obtain ⟨pl, hpl0⟩ : ∃ pl, pl = Sha.pad l := ⟨_, rfl⟩
  rw [← hpl0] at hm hsum ⊢
  refine wK fun K hK => ?_
  refine wS fun K hK => ?_
  simp only [↓DN,UP,DF,Qa,Qb,Qc,Qd,Qe,Qf,Qg,Qh,reduceCtorEq,↓reduceIte,Na,Nb,Nc,Nk,Nf,Ng,Nh,Za,Zb,Zc,TT]
  refine hK _ _ ?_;clear hK K
  refine awp_block ?_
  refine awp_loop (fun E s2 => ∃ i : Nat, i ≤ m ∧ Kp oh m pl (.own tk e) i E ∧ s2.objs oh = some (stC (Sha.hash pl i)) ∧ s.le s2)
    (fun E _ => match E 6 with | .v (.int _ x) => 64 * m - x.toNat | _ => 0) ?_ ?_
  · exact ⟨0, Nat.zero_le _, ⟨by simp only [upd, Nc, ↓reduceIte], by simp only [upd, Nc, ↓reduceIte], by simp only [upd, Nc, ↓reduceIte], by simp only [upd, ↓reduceIte]; rfl⟩, hobj, hle⟩
  · rintro E1 s2 ⟨i, hi, hk, ho, hle⟩ -
    have e6 := hk.h6
    have hmu := hk.h6
    refine wK fun K2 hK2 => ?_
    by_cases hi' : i < m
    · have hlt : ((64 * i : Nat) : Int) < ((64 * m : Nat) : Int) := by omega
      refine wS fun K hK => ?_
      simp only [↓DN,UP,DF,Qa,Qb,Qc,Qd,Qe,Qf,Qg,Qh,reduceCtorEq,↓reduceIte,Na,Nb,Nc,Nk,Nf,Ng,Nh,Za,Zb,Zc,TT, e6, hk.h5, decide_eq_true hlt]
      refine hK _ _ ?_;clear hK K
      refine wC fun X Y hX hY => ?_
      simp only [↓DN,UP,DF,Qa,Qb,Qc,Qd,Qe,Qf,Qg,Qh,reduceCtorEq,↓reduceIte,Na,Nb,Nc,Nk,Nf,Ng,Nh,Za,Zb,Zc,TT, DB]
      refine hX ?_;clear hX hY X Y
      refine awp_skip ?_
      refine hK2 _ _ ?_;clear hK2 K2
      refine wK fun K3 hK3 => ?_
      refine awp_block ?_
      have hcl : (Sha.blk pl i).length = 64 := (chunk_blk pl i (by omega)).2
      have hbg : ∀ j, j < 64 → (Sha.blk pl i).getD j 0 = pl.getD (64 * i + j) 0 := fun j hj => blk_getD pl i j hj (by omega)
      have hpg : ∀ j, j < 64 * m → List.map byteV (List.take 1 (List.drop j pl)) = [.v (.int .u8 ((pl.getD j 0).toNat : Int))] := fun j hj => bget' pl j (by omega)
      obtain ⟨c, hc⟩ : ∃ c, c = Sha.blk pl i := ⟨_, rfl⟩
      rw [← hc] at hcl hbg
      have hnx : Sha.hash pl (i + 1) = Sha.mix (Sha.hash pl i) c := by rw [hc]; rfl
      have hst := Sha.hash_ok pl i
      generalize hstd : Sha.hash pl i = st at *
      refine wS fun K hK => ?_
      simp only [↓DN,UP,DF,Qa,Qb,Qc,Qd,Qe,Qf,Qg,Qh,reduceCtorEq,↓reduceIte,Na,Nb,Nc,Nk,Nf,Ng,Nh,Za,Zb,Zc,TT]
      refine ⟨by decide, by decide, fun ow how => ?_⟩
      have hwh : ow ≠ oh := fun e' => by rw [e', ho] at how; cases how
      have hown : s.objs ow = none := by
        cases hs : s.objs ow with
        | none => rfl
        | some cs => rw [hle.objs _ _ hs] at how; cases how
      refine hK _ _ ?_
      clear hK
      rw [show List.replicate 64 (AV.v (.int .u32 0)) = row c 0 from rfl]
      obtain ⟨E2, hE2⟩ : ∃ E2, E2 = (upd (upd (upd (upd (upd (upd E1 24 (AV.v (Value.int IntKind.i64 ((64 * i : Nat) : Int)))) 25 (AV.sl 1 (64 * m) (List.map byteV pl) (Sp.own tk e))) 26 (AV.v (Value.int IntKind.i64 ((64 * m : Nat) : Int)))) 27 (AV.v (Value.bool true))) 30 (AV.osl ow 0 1 64 64)) 7 (AV.osl ow 0 1 64 64)) := ⟨_, rfl⟩
      have hk : Kp oh m pl (.own tk e) i E2 := by
        rw [hE2]
        repeat (first | exact hk | refine Kp.upd ?_ (by decide))
      have hq : Kq ow E2 := ⟨by rw [hE2]; simp only [upd, ↓reduceIte]⟩
      rw [← hE2]
      clear hE2 e6
      refine wK fun K4 hK4 => ?_
      refine wS fun K hK => ?_
      simp only [↓DN,UP,DF,Qa,Qb,Qc,Qd,Qe,Qf,Qg,Qh,reduceCtorEq,↓reduceIte,Na,Nb,Nc,Nk,Nf,Ng,Nh,Za,Zb,Zc,TT]
      refine hK _ _ ?_;clear hK K
      refine awp_block ?_
      refine awp_loop (fun E s3 => ∃ t : Nat, t ≤ 16 ∧ Kp oh m pl (.own tk e) i E ∧ Kq ow E ∧ E 8 = .v (.int .i64 t) ∧ s3.objs ow = some (row c t) ∧ s3.objs oh = some (stC st) ∧ s.le s3)
        (fun E _ => match E 8 with | .v (.int _ x) => 16 - x.toNat | _ => 0) ?_ ?_
      · exact ⟨0, by omega, (by repeat (first | exact hk | exact hq | refine Kp.upd ?_ (by decide) | refine Kq.upd ?_ (by decide))), (by repeat (first | exact hk | exact hq | refine Kp.upd ?_ (by decide) | refine Kq.upd ?_ (by decide))), by simp only [upd, ↓reduceIte]; rfl, AS.set_objs_same _ _ _, by rw [AS.set_objs_ne _ hwh.symm]; exact ho, AS.le_set hle hown _⟩
      · rintro E3 s3 ⟨t, ht, hk, hq, g8, jw, jh, hle3⟩ -
        refine wK fun K5 hK5 => ?_
        by_cases ht' : t < 16
        · have hlt : (t : Int) < 16 := by omega
          refine wS fun K hK => ?_
          simp only [↓DN,UP,DF,Qa,Qb,Qc,Qd,Qe,Qf,Qg,Qh,reduceCtorEq,↓reduceIte,Na,Nb,Nc,Nk,Nf,Ng,Nh,Za,Zb,Zc,TT, g8, decide_eq_true hlt]
          refine hK _ _ ?_;clear hK K
          refine wC fun X Y hX hY => ?_
          simp only [↓DN,UP,DF,Qa,Qb,Qc,Qd,Qe,Qf,Qg,Qh,reduceCtorEq,↓reduceIte,Na,Nb,Nc,Nk,Nf,Ng,Nh,Za,Zb,Zc,TT, DB]
          refine hX ?_;clear hX hY X Y
          refine awp_skip ?_
          refine hK5 _ _ ?_;clear hK5 K5
          refine wK fun K6 hK6 => ?_
          refine awp_block ?_
          have a0 : iadd .i64 ((64 * i : Nat) : Int) ((4 * t : Nat) : Int) = ((64 * i + 4 * t : Nat) : Int) := i64_add _ _ (by omega)
          have a1 : iadd .i64 ((64 * i + 4 * t : Nat) : Int) 1 = ((64 * i + 4 * t + 1 : Nat) : Int) := i64_add _ 1 (by omega)
          have a2 : iadd .i64 ((64 * i + 4 * t : Nat) : Int) 2 = ((64 * i + 4 * t + 2 : Nat) : Int) := i64_add _ 2 (by omega)
          have a3 : iadd .i64 ((64 * i + 4 * t : Nat) : Int) 3 = ((64 * i + 4 * t + 3 : Nat) : Int) := i64_add _ 3 (by omega)
          have hword : Sha.word c (Sha.sch c t) t = Sha.be32 (pl.getD (64 * i + 4 * t) 0).toNat (pl.getD (64 * i + 4 * t + 1) 0).toNat (pl.getD (64 * i + 4 * t + 2) 0).toNat (pl.getD (64 * i + 4 * t + 3) 0).toNat := by
            rw [Sha.word, if_pos ht', hbg _ (by omega), hbg _ (by omega), hbg _ (by omega), hbg _ (by omega)]
            rfl
          have hset := row_set c t (by omega)
          rw [hword] at hset
          simp only [wV] at hset
          rw [← be32_or] at hset
          have p0 := hpg (64 * i + 4 * t) (by omega)
          have p1 := hpg (64 * i + 4 * t + 1) (by omega)
          have p2 := hpg (64 * i + 4 * t + 2) (by omega)
          have p3 := hpg (64 * i + 4 * t + 3) (by omega)
          have b0 : ((64 * i + 4 * t : Nat) : Int) < ((64 * m : Nat) : Int) := by omega
          have b1 : ((64 * i + 4 * t + 1 : Nat) : Int) < ((64 * m : Nat) : Int) := by omega
          have b2 : ((64 * i + 4 * t + 2 : Nat) : Int) < ((64 * m : Nat) : Int) := by omega
          have b3 : ((64 * i + 4 * t + 3 : Nat) : Int) < ((64 * m : Nat) : Int) := by omega
          have q0 : (0 : Int) ≤ ((64 * i + 4 * t : Nat) : Int) := by omega
          have q1 : (0 : Int) ≤ ((64 * i + 4 * t + 1 : Nat) : Int) := by omega
          have q2 : (0 : Int) ≤ ((64 * i + 4 * t + 2 : Nat) : Int) := by omega
          have q3 : (0 : Int) ≤ ((64 * i + 4 * t + 3 : Nat) : Int) := by omega
          have ht0 : (0 : Int) ≤ (t : Int) := by omega
          have ht64 : (t : Int) < ((64 : Nat) : Int) := by omega
          have hlen := row_len c t (by omega)
          generalize pl.getD (64 * i + 4 * t) 0 = x0 at *
          generalize pl.getD (64 * i + 4 * t + 1) 0 = x1 at *
          generalize pl.getD (64 * i + 4 * t + 2) 0 = x2 at *
          generalize pl.getD (64 * i + 4 * t + 3) 0 = x3 at *
          obtain ⟨R, hR⟩ : ∃ R, R = row c t := ⟨_, rfl⟩
          rw [← hR] at hset hlen jw
          refine wS fun K hK => ?_
          simp only [↓DN,UP,DF,Qa,Qb,Qc,Qd,Qe,Qf,Qg,Qh,reduceCtorEq,↓reduceIte,Na,Nb,Nc,Nk,Nf,Ng,Nh,Za,Zb,Zc,TT, hk.h6, g8, i64_mul4 t (by omega), a0]
          refine hK _ _ ?_;clear hK K
          refine awp_drw_end T.mixed [32] (by kernel_rfl) ?_
          intro K hK
          simp only [↓AXq_nil,↓AXq_cons,pval,DX,Nat.reduceBEq,↓DN,UP,DF,Qa,Qb,Qc,Qd,Qe,Qf,Qg,Qh,reduceCtorEq,↓reduceIte,Na,Nb,Nc,Nk,Nf,Ng,Nh,Za,Zb,Zc,TT, hk.h5, hq.h7, g8, a1, a2, a3, q0, q1, q2, q3, b0, b1, b2, b3, p0, p1, p2, p3, ht0, ht64, jw, hset, hlen]
          refine ⟨by omega, hK _ _ ?_⟩
          clear hK
          simp only [thenQ, blockQ, if_true, if_false]
          refine hK6 _ _ ?_;clear hK6 K6
          refine wE fun K hK => ?_
          simp only [↓DN,UP,DF,Qa,Qb,Qc,Qd,Qe,Qf,Qg,Qh,reduceCtorEq,↓reduceIte,Na,Nb,Nc,Nk,Nf,Ng,Nh,Za,Zb,Zc,TT, g8, w_succ t (by omega)]
          refine hK _ _ ?_;clear hK K
          refine ⟨⟨t + 1, by omega, (by repeat (first | exact hk | exact hq | refine Kp.upd ?_ (by decide) | refine Kq.upd ?_ (by decide))), (by repeat (first | exact hk | exact hq | refine Kp.upd ?_ (by decide) | refine Kq.upd ?_ (by decide))), by simp only [upd, ↓reduceIte], AS.set_objs_same _ _ _, by rw [AS.set_objs_ne _ hwh.symm]; exact jh, AS.le_set hle3 hown _⟩, ?_⟩
          simp only [g8, upd, ↓reduceIte]
          omega
        · have hlt : ¬ (t : Int) < 16 := by omega
          obtain rfl : t = 16 := by omega
          refine wS fun K hK => ?_
          simp only [↓DN,UP,DF,Qa,Qb,Qc,Qd,Qe,Qf,Qg,Qh,reduceCtorEq,↓reduceIte,Na,Nb,Nc,Nk,Nf,Ng,Nh,Za,Zb,Zc,TT, g8, decide_eq_false hlt]
          refine hK _ _ ?_;clear hK K
          refine wC fun X Y hX hY => ?_
          simp only [↓DN,UP,DF,Qa,Qb,Qc,Qd,Qe,Qf,Qg,Qh,reduceCtorEq,↓reduceIte,Na,Nb,Nc,Nk,Nf,Ng,Nh,Za,Zb,Zc,TT, DB]
          refine hY ?_;clear hX hY X Y
          refine awp_exit ?_
          simp only [thenQ, blockQ, if_true]
          clear hK5 K5
          refine hK4 _ _ ?_;clear hK4 K4
          have hk : Kp oh m pl (.own tk e) i (upd (upd E3 31 (AV.v (.int .i64 ((16 : Nat) : Int)))) 32 (AV.v (.bool false))) := (by repeat (first | exact hk | exact hq | refine Kp.upd ?_ (by decide) | refine Kq.upd ?_ (by decide)))
          have hq : Kq ow (upd (upd E3 31 (AV.v (.int .i64 ((16 : Nat) : Int)))) 32 (AV.v (.bool false))) := (by repeat (first | exact hk | exact hq | refine Kp.upd ?_ (by decide) | refine Kq.upd ?_ (by decide)))
          generalize (upd (upd E3 31 (AV.v (.int .i64 ((16 : Nat) : Int)))) 32 (AV.v (.bool false))) = E4 at *
          clear g8
          refine wK fun K4 hK4 => ?_
          refine wS fun K hK => ?_
          simp only [↓DN,UP,DF,Qa,Qb,Qc,Qd,Qe,Qf,Qg,Qh,reduceCtorEq,↓reduceIte,Na,Nb,Nc,Nk,Nf,Ng,Nh,Za,Zb,Zc,TT]
          refine hK _ _ ?_;clear hK K
          refine awp_block ?_
          refine awp_loop (fun E s3 => ∃ t : Nat, 16 ≤ t ∧ t ≤ 64 ∧ Kp oh m pl (.own tk e) i E ∧ Kq ow E ∧ E 10 = .v (.int .i64 t) ∧ s3.objs ow = some (row c t) ∧ s3.objs oh = some (stC st) ∧ s.le s3)
            (fun E _ => match E 10 with | .v (.int _ x) => 64 - x.toNat | _ => 0) ?_ ?_
          · exact ⟨16, by omega, by omega, (by repeat (first | exact hk | exact hq | refine Kp.upd ?_ (by decide) | refine Kq.upd ?_ (by decide))), (by repeat (first | exact hk | exact hq | refine Kp.upd ?_ (by decide) | refine Kq.upd ?_ (by decide))), by simp only [upd, ↓reduceIte]; rfl, jw, jh, hle3⟩
          · rintro E5 s4 ⟨t, ht, ht2, hk, hq, g10, jw, jh, hle4⟩ -
            refine wK fun K5 hK5 => ?_
            by_cases ht' : t < 64
            · have hlt : (t : Int) < 64 := by omega
              refine wS fun K hK => ?_
              simp only [↓DN,UP,DF,Qa,Qb,Qc,Qd,Qe,Qf,Qg,Qh,reduceCtorEq,↓reduceIte,Na,Nb,Nc,Nk,Nf,Ng,Nh,Za,Zb,Zc,TT, g10, decide_eq_true hlt]
              refine hK _ _ ?_;clear hK K
              refine wC fun X Y hX hY => ?_
              simp only [↓DN,UP,DF,Qa,Qb,Qc,Qd,Qe,Qf,Qg,Qh,reduceCtorEq,↓reduceIte,Na,Nb,Nc,Nk,Nf,Ng,Nh,Za,Zb,Zc,TT, DB]
              refine hX ?_;clear hX hY X Y
              refine awp_skip ?_
              refine hK5 _ _ ?_;clear hK5 K5
              refine wK fun K6 hK6 => ?_
              refine awp_block ?_
              have ht0 : (0 : Int) ≤ (t : Int) := by omega
              have ht64 : (t : Int) < ((64 : Nat) : Int) := by omega
              have n2 : (0 : Int) ≤ ((t - 2 : Nat) : Int) := by omega
              have n7 : (0 : Int) ≤ ((t - 7 : Nat) : Int) := by omega
              have n15 : (0 : Int) ≤ ((t - 15 : Nat) : Int) := by omega
              have n16 : (0 : Int) ≤ ((t - 16 : Nat) : Int) := by omega
              have m2 : ((t - 2 : Nat) : Int) < ((64 : Nat) : Int) := by omega
              have m7 : ((t - 7 : Nat) : Int) < ((64 : Nat) : Int) := by omega
              have m15 : ((t - 15 : Nat) : Int) < ((64 : Nat) : Int) := by omega
              have m16 : ((t - 16 : Nat) : Int) < ((64 : Nat) : Int) := by omega
              have w2 : isub .i64 (t : Int) 2 = ((t - 2 : Nat) : Int) := i64_sub t 2 (by omega) (by omega)
              have w7 : isub .i64 (t : Int) 7 = ((t - 7 : Nat) : Int) := i64_sub t 7 (by omega) (by omega)
              have w15 : isub .i64 (t : Int) 15 = ((t - 15 : Nat) : Int) := i64_sub t 15 (by omega) (by omega)
              have w16 : isub .i64 (t : Int) 16 = ((t - 16 : Nat) : Int) := i64_sub t 16 (by omega) (by omega)
              have d2 := row_drop c t (t - 2) (by omega)
              have d7 := row_drop c t (t - 7) (by omega)
              have d15 := row_drop c t (t - 15) (by omega)
              have d16 := row_drop c t (t - 16) (by omega)
              have hw : Sha.word c (Sha.sch c t) t = Sha.add32 (Sha.add32 (Sha.add32 (Sha.sig2 ((Sha.sch c t).getD (t - 2) 0) 17 19 10) ((Sha.sch c t).getD (t - 7) 0)) (Sha.sig2 ((Sha.sch c t).getD (t - 15) 0) 7 18 3)) ((Sha.sch c t).getD (t - 16) 0) := by rw [Sha.word, if_neg (by omega)]
              have hset := row_set c t ht'
              rw [hw] at hset
              have hlen := row_len c t ht2
              have l2 := Sha.sch_getD_lt c t (t - 2)
              have l15 := Sha.sch_getD_lt c t (t - 15)
              generalize (Sha.sch c t).getD (t - 2) 0 = y at *
              generalize (Sha.sch c t).getD (t - 7) 0 = x7 at *
              generalize (Sha.sch c t).getD (t - 15) 0 = x at *
              generalize (Sha.sch c t).getD (t - 16) 0 = x16 at *
              obtain ⟨R, hR⟩ : ∃ R, R = row c t := ⟨_, rfl⟩
              rw [← hR] at d2 d7 d15 d16 hset hlen jw
              have y10 : ishr .u32 (y : Int) 10 = ((y / 2 ^ 10 : Nat) : Int) := wshr y 10 (by decide)
              have x3 : ishr .u32 (x : Int) 3 = ((x / 2 ^ 3 : Nat) : Int) := wshr x 3 (by decide)
              have v1 := wxor _ _ (Sha.rotr_lt 17 l2) (Sha.rotr_lt 19 l2)
              have v2 := wxor _ _ (Nat.xor_lt_two_pow (n := 32) (Sha.rotr_lt 17 l2) (Sha.rotr_lt 19 l2)) (Nat.lt_of_le_of_lt (Nat.div_le_self y (2 ^ 10)) l2)
              have v3 := wxor _ _ (Sha.rotr_lt 7 l15) (Sha.rotr_lt 18 l15)
              have v4 := wxor _ _ (Nat.xor_lt_two_pow (n := 32) (Sha.rotr_lt 7 l15) (Sha.rotr_lt 18 l15)) (Nat.lt_of_le_of_lt (Nat.div_le_self x (2 ^ 3)) l15)
              have u1 : (Sha.rotr y 17 ^^^ Sha.rotr y 19) ^^^ (y / 2 ^ 10) = Sha.sig2 y 17 19 10 := rfl
              have u2 : (Sha.rotr x 7 ^^^ Sha.rotr x 18) ^^^ (x / 2 ^ 3) = Sha.sig2 x 7 18 3 := rfl
              rw [u1] at v2
              rw [u2] at v4
              simp only [Nat.reducePow] at y10 x3 v2 v4
              refine awp_mrk_seq T.mixed [(ow, R)] [] [4, 9] [] (by kernel_rfl) (by simp only [Pres_cons, Pres_nil, and_true]; simp [AS.set, upd, jw]) ?_
              intro K hK
              simp only [↓AXr_nil, ↓AXr_cons, gval, lval, fzGet_cons, fzGet_nil, Pres_cons, Pres_nil, List.any_cons, List.any_nil, List.contains_cons, List.contains_nil, Nat.reduceBEq, Bool.or_false, Bool.or_true, Bool.or_self, Bool.false_or, ↓DN,UP,DF,Qa,Qb,Qc,Qd,Qe,Qf,Qg,Qh,reduceCtorEq,↓reduceIte,Na,Nb,Nc,Nk,Nf,Ng,Nh,Za,Zb,Zc,TT, hq.h7, g10, w2, w15, n2, n15, m2, m15, d2, d15, jw]
              refine hK _ _ ?_;clear hK K
              refine awp_mrk_end T.mixed [(ow, R)] [3, 5, 17, 19] [14, 29] [32] (by kernel_rfl) (by simp only [Pres_cons, Pres_nil, and_true]; simp [AS.set, upd, jw]) ?_
              intro K hK
              simp only [↓AXr_nil, ↓AXr_cons, gval, lval, fzGet_cons, fzGet_nil, Pres_cons, Pres_nil, List.any_cons, List.any_nil, List.contains_cons, List.contains_nil, Nat.reduceBEq, Bool.or_false, Bool.or_true, Bool.or_self, Bool.false_or, ↓DN,UP,DF,Qa,Qb,Qc,Qd,Qe,Qf,Qg,Qh,reduceCtorEq,↓reduceIte,Na,Nb,Nc,Nk,Nf,Ng,Nh,Za,Zb,Zc,TT, hq.h7, g10, w7, w16, n7, n16, m7, m16, d7, d16, jw]
              refine acallk (right_calls y 17 l2 (by omega) (by omega) _) ?_
              rintro r sa ⟨rfl, rfl⟩
              simp only [↓AXq_nil, ↓AXq_cons, pval, ↓AXr_nil, ↓AXr_cons, gval, lval, fzGet_cons, fzGet_nil, Pres_cons, Pres_nil, List.any_cons, List.any_nil, DX, Nat.reduceBEq, ↓DN,UP,DF,Qa,Qb,Qc,Qd,Qe,Qf,Qg,Qh,reduceCtorEq,↓reduceIte,Na,Nb,Nc,Nk,Nf,Ng,Nh,Za,Zb,Zc,TT, hq.h7, g10, w7, w16, n7, n16, m7, m16, d7, d16, jw]
              refine acallk (right_calls y 19 l2 (by omega) (by omega) _) ?_
              rintro r sb ⟨rfl, rfl⟩
              simp only [↓AXq_nil, ↓AXq_cons, pval, ↓AXr_nil, ↓AXr_cons, gval, lval, fzGet_cons, fzGet_nil, Pres_cons, Pres_nil, List.any_cons, List.any_nil, DX, Nat.reduceBEq, ↓DN,UP,DF,Qa,Qb,Qc,Qd,Qe,Qf,Qg,Qh,reduceCtorEq,↓reduceIte,Na,Nb,Nc,Nk,Nf,Ng,Nh,Za,Zb,Zc,TT, hq.h7, g10, w7, w16, n7, n16, m7, m16, d7, d16, jw, y10, v1, v2, wadd]
              refine acallk (right_calls x 7 l15 (by omega) (by omega) _) ?_
              rintro r sc ⟨rfl, rfl⟩
              simp only [↓AXq_nil, ↓AXq_cons, pval, ↓AXr_nil, ↓AXr_cons, gval, lval, fzGet_cons, fzGet_nil, Pres_cons, Pres_nil, List.any_cons, List.any_nil, DX, Nat.reduceBEq, ↓DN,UP,DF,Qa,Qb,Qc,Qd,Qe,Qf,Qg,Qh,reduceCtorEq,↓reduceIte,Na,Nb,Nc,Nk,Nf,Ng,Nh,Za,Zb,Zc,TT, hq.h7, g10, w7, w16, n7, n16, m7, m16, d7, d16, jw, y10, v1, v2, wadd]
              refine acallk (right_calls x 18 l15 (by omega) (by omega) _) ?_
              rintro r sd ⟨rfl, rfl⟩
              simp only [↓AXq_nil, ↓AXq_cons, pval, ↓AXr_nil, ↓AXr_cons, gval, lval, fzGet_cons, fzGet_nil, Pres_cons, Pres_nil, List.any_cons, List.any_nil, DX, Nat.reduceBEq, ↓DN,UP,DF,Qa,Qb,Qc,Qd,Qe,Qf,Qg,Qh,reduceCtorEq,↓reduceIte,Na,Nb,Nc,Nk,Nf,Ng,Nh,Za,Zb,Zc,TT, hq.h7, g10, w7, w16, n7, n16, m7, m16, d7, d16, jw, x3, v3, v4, wadd, ht0, ht64, hset, hlen]
              refine ⟨by omega, hK _ _ ?_⟩
              clear hK
              simp only [thenQ, blockQ, if_true, if_false]
              refine hK6 _ _ ?_;clear hK6 K6
              refine wE fun K hK => ?_
              simp only [↓DN,UP,DF,Qa,Qb,Qc,Qd,Qe,Qf,Qg,Qh,reduceCtorEq,↓reduceIte,Na,Nb,Nc,Nk,Nf,Ng,Nh,Za,Zb,Zc,TT, g10, w_succ t (by omega)]
              refine hK _ _ ?_;clear hK K
              refine ⟨⟨t + 1, by omega, by omega, (by repeat (first | exact hk | exact hq | refine Kp.upd ?_ (by decide) | refine Kq.upd ?_ (by decide))), (by repeat (first | exact hk | exact hq | refine Kp.upd ?_ (by decide) | refine Kq.upd ?_ (by decide))), by simp only [upd, ↓reduceIte], AS.set_objs_same _ _ _, by rw [AS.set_objs_ne _ hwh.symm]; exact jh, AS.le_set hle4 hown _⟩, ?_⟩
              simp only [g10, upd, ↓reduceIte]
              omega
            · have hlt : ¬ (t : Int) < 64 := by omega
              obtain rfl : t = 64 := by omega
              refine wS fun K hK => ?_
              simp only [↓DN,UP,DF,Qa,Qb,Qc,Qd,Qe,Qf,Qg,Qh,reduceCtorEq,↓reduceIte,Na,Nb,Nc,Nk,Nf,Ng,Nh,Za,Zb,Zc,TT, g10, decide_eq_false hlt]
              refine hK _ _ ?_;clear hK K
              refine wC fun X Y hX hY => ?_
              simp only [↓DN,UP,DF,Qa,Qb,Qc,Qd,Qe,Qf,Qg,Qh,reduceCtorEq,↓reduceIte,Na,Nb,Nc,Nk,Nf,Ng,Nh,Za,Zb,Zc,TT, DB]
              refine hY ?_;clear hX hY X Y
              refine awp_exit ?_
              simp only [thenQ, blockQ, if_true]
              clear hK5 K5
              refine hK4 _ _ ?_;clear hK4 K4
              have hk : Kp oh m pl (.own tk e) i (upd (upd E5 71 (AV.v (.int .i64 ((64 : Nat) : Int)))) 72 (AV.v (.bool false))) := (by repeat (first | exact hk | exact hq | refine Kp.upd ?_ (by decide) | refine Kq.upd ?_ (by decide)))
              have hq : Kq ow (upd (upd E5 71 (AV.v (.int .i64 ((64 : Nat) : Int)))) 72 (AV.v (.bool false))) := (by repeat (first | exact hk | exact hq | refine Kp.upd ?_ (by decide) | refine Kq.upd ?_ (by decide)))
              generalize (upd (upd E5 71 (AV.v (.int .i64 ((64 : Nat) : Int)))) 72 (AV.v (.bool false))) = E6 at *
              clear g10
              rw [row_full] at jw
              obtain ⟨W, hW⟩ : ∃ W, W = Sha.sch c 64 := ⟨_, rfl⟩
              have hWl : W.length = 64 := by rw [hW, Sha.sch_length]
              have hmix : Sha.mix st c = st.add (Sha.rounds W st 64) := by rw [hW]; rfl
              rw [← hW] at jw
              have hst8 : (stC st).length = 8 := rfl
              have htk8 : List.take 8 (stC st) = stC st := rfl
              have hall8 := stC_all st
              refine wS fun K hK => ?_
              simp only [↓DN,UP,DF,Qa,Qb,Qc,Qd,Qe,Qf,Qg,Qh,reduceCtorEq,↓reduceIte,Na,Nb,Nc,Nk,Nf,Ng,Nh,Za,Zb,Zc,TT, hk.h3, jh]
              intro tt htt
              refine hK _ _ ?_
              clear hK
              have hown2 : s.own tt = none := by
                cases hs : s.own tt with
                | none => rfl
                | some g => rw [hle4.own _ _ hs] at htt; cases htt
              have hle5 : s.le (s4.gain tt 0) := AS.le_gain hle4 hown2 _
              have jw5 : (s4.gain tt 0).objs ow = some (W.map wV) := jw
              have jh5 : (s4.gain tt 0).objs oh = some (stC st) := jh
              generalize s4.gain tt 0 = s5 at *
              refine wK fun K4 hK4 => ?_
              refine wS fun K hK => ?_
              simp only [↓DN,UP,DF,Qa,Qb,Qc,Qd,Qe,Qf,Qg,Qh,reduceCtorEq,↓reduceIte,Na,Nb,Nc,Nk,Nf,Ng,Nh,Za,Zb,Zc,TT]
              refine hK _ _ ?_;clear hK K
              refine awp_block ?_
              refine awp_loop (fun E s3 => ∃ t : Nat, t ≤ 64 ∧ Kp oh m pl (.own tk e) i E ∧ Kq ow E ∧ (∃ sp', Kr (stC (Sha.rounds W st t)) sp' E) ∧ E 14 = .v (.int .i64 t) ∧ s3.objs ow = some (W.map wV) ∧ s3.objs oh = some (stC st) ∧ s.le s3)
                (fun E _ => match E 14 with | .v (.int _ x) => 64 - x.toNat | _ => 0) ?_ ?_
              · exact ⟨0, by omega, (by repeat (first | exact hk | exact hq | refine Kp.upd ?_ (by decide) | refine Kq.upd ?_ (by decide))), (by repeat (first | exact hk | exact hq | refine Kp.upd ?_ (by decide) | refine Kq.upd ?_ (by decide))), ⟨.own tt 0, by refine Kr.upd ?_ (by decide); exact ⟨by simp only [upd, ↓reduceIte]; rfl⟩⟩, by simp only [upd, ↓reduceIte]; rfl, jw5, jh5, hle5⟩
              · rintro E7 s6 ⟨t, ht, hk, hq, ⟨sp', hv⟩, g14, jw, jh, hle6⟩ -
                refine wK fun K5 hK5 => ?_
                have hus := Sha.rounds_ok (w := W) hst t
                have hnxr : Sha.rounds W st (t + 1) = (Sha.rounds W st t).step (Sha.K.getD t 0) (W.getD t 0) := rfl
                generalize hu : Sha.rounds W st t = u at *
                by_cases ht' : t < 64
                · have hlt : (t : Int) < 64 := by omega
                  refine wS fun K hK => ?_
                  simp only [↓DN,UP,DF,Qa,Qb,Qc,Qd,Qe,Qf,Qg,Qh,reduceCtorEq,↓reduceIte,Na,Nb,Nc,Nk,Nf,Ng,Nh,Za,Zb,Zc,TT, g14, decide_eq_true hlt]
                  refine hK _ _ ?_;clear hK K
                  refine wC fun X Y hX hY => ?_
                  simp only [↓DN,UP,DF,Qa,Qb,Qc,Qd,Qe,Qf,Qg,Qh,reduceCtorEq,↓reduceIte,Na,Nb,Nc,Nk,Nf,Ng,Nh,Za,Zb,Zc,TT, DB]
                  refine hX ?_;clear hX hY X Y
                  refine awp_skip ?_
                  refine hK5 _ _ ?_;clear hK5 K5
                  refine wK fun K6 hK6 => ?_
                  refine awp_block ?_
                  have ht0 : (0 : Int) ≤ (t : Int) := by omega
                  have ht64 : (t : Int) < ((64 : Nat) : Int) := by omega
                  have hwd := wget W t (by omega)
                  have hkd := wget Sha.K t (by rw [show Sha.K.length = 64 from rfl]; omega)
                  generalize W.getD t 0 = wi at *
                  generalize Sha.K.getD t 0 = ki at *
                  obtain ⟨KL, hKL⟩ : ∃ KL, KL = Sha.K.map wV := ⟨_, rfl⟩
                  obtain ⟨WL, hWL⟩ : ∃ WL, WL = W.map wV := ⟨_, rfl⟩
                  have g4 := hk.h4
                  rw [← hKL] at hkd g4
                  rw [← hWL] at hwd jw
                  have hkd1 : List.take 1 (List.drop t KL) = [wV ki] := by rw [hkd]; rfl
                  have g13 := hv.h13
                  have lt2 : ∀ {a b : Nat}, a < 4294967296 → b < 4294967296 → a &&& b < 4294967296 := fun {a b} ha hb => Nat.lt_of_le_of_lt Nat.and_le_left ha
                  have lx2 : ∀ {a b : Nat}, a < 4294967296 → b < 4294967296 → a ^^^ b < 4294967296 := fun {a b} ha hb => Nat.xor_lt_two_pow (n := 32) ha hb
                  have hn : 4294967295 - u.e < 4294967296 := by omega
                  have z1 := wxor _ _ (Sha.rotr_lt 6 hus.e) (Sha.rotr_lt 11 hus.e)
                  have z2 := wxor _ _ (lx2 (Sha.rotr_lt 6 hus.e) (Sha.rotr_lt 11 hus.e)) (Sha.rotr_lt 25 hus.e)
                  have z3 : (Sha.rotr u.e 6 ^^^ Sha.rotr u.e 11) ^^^ Sha.rotr u.e 25 = Sha.sig3 u.e 6 11 25 := rfl
                  rw [z3] at z2
                  have z4 := wxor _ _ (Sha.rotr_lt 2 hus.a) (Sha.rotr_lt 13 hus.a)
                  have z5 := wxor _ _ (lx2 (Sha.rotr_lt 2 hus.a) (Sha.rotr_lt 13 hus.a)) (Sha.rotr_lt 22 hus.a)
                  have z6 : (Sha.rotr u.a 2 ^^^ Sha.rotr u.a 13) ^^^ Sha.rotr u.a 22 = Sha.sig3 u.a 2 13 22 := rfl
                  rw [z6] at z5
                  refine awp_mrk_seq T.mixed [(ow, WL)] [6, 10, 15] [43] [] (by kernel_rfl) (by simp only [Pres_cons, Pres_nil, and_true]; simp [AS.set, upd, jw]) ?_
                  intro K hK
                  simp only [↓AXr_nil, ↓AXr_cons, gval, lval, fzGet_cons, fzGet_nil, Pres_cons, Pres_nil, List.any_cons, List.any_nil, List.contains_cons, List.contains_nil, Nat.reduceBEq, Bool.or_false, Bool.or_true, Bool.or_self, Bool.false_or, ↓DN,UP,DF,Qa,Qb,Qc,Qd,Qe,Qf,Qg,Qh,reduceCtorEq,↓reduceIte,Na,Nb,Nc,Nk,Nf,Ng,Nh,Za,Zb,Zc,TT, g13, c8, hq.h7, g14, g4, jw]
                  refine acallk (right_calls u.e 6 hus.e (by omega) (by omega) _) ?_
                  rintro r sa ⟨rfl, rfl⟩
                  simp only [↓AXq_nil, ↓AXq_cons, pval, ↓AXr_nil, ↓AXr_cons, gval, lval, fzGet_cons, fzGet_nil, Pres_cons, Pres_nil, List.any_cons, List.any_nil, DX, Nat.reduceBEq, ↓DN,UP,DF,Qa,Qb,Qc,Qd,Qe,Qf,Qg,Qh,reduceCtorEq,↓reduceIte,Na,Nb,Nc,Nk,Nf,Ng,Nh,Za,Zb,Zc,TT, g13, c8, hq.h7, g14, g4, jw]
                  refine acallk (right_calls u.e 11 hus.e (by omega) (by omega) _) ?_
                  rintro r sb ⟨rfl, rfl⟩
                  simp only [↓AXq_nil, ↓AXq_cons, pval, ↓AXr_nil, ↓AXr_cons, gval, lval, fzGet_cons, fzGet_nil, Pres_cons, Pres_nil, List.any_cons, List.any_nil, DX, Nat.reduceBEq, ↓DN,UP,DF,Qa,Qb,Qc,Qd,Qe,Qf,Qg,Qh,reduceCtorEq,↓reduceIte,Na,Nb,Nc,Nk,Nf,Ng,Nh,Za,Zb,Zc,TT, g13, c8, hq.h7, g14, g4, jw, z1]
                  refine acallk (right_calls u.e 25 hus.e (by omega) (by omega) _) ?_
                  rintro r sc ⟨rfl, rfl⟩
                  simp only [↓AXq_nil, ↓AXq_cons, pval, ↓AXr_nil, ↓AXr_cons, gval, lval, fzGet_cons, fzGet_nil, Pres_cons, Pres_nil, List.any_cons, List.any_nil, DX, Nat.reduceBEq, ↓DN,UP,DF,Qa,Qb,Qc,Qd,Qe,Qf,Qg,Qh,reduceCtorEq,↓reduceIte,Na,Nb,Nc,Nk,Nf,Ng,Nh,Za,Zb,Zc,TT, g13, c8, hq.h7, g14, g4, jw, z1, z2, hkd1, hwd, ht0, ht64, wadd, wand u.e u.f hus.e hus.f, wnot u.e hus.e, wand (4294967295 - u.e) u.g hn hus.g, wxor (u.e &&& u.f) ((4294967295 - u.e) &&& u.g) (lt2 hus.e hus.f) (lt2 hn hus.g)]
                  refine hK _ _ ?_;clear hK K
                  refine awp_drw_seq T.mixed [3, 7, 12] (by kernel_rfl) ?_
                  intro K hK
                  simp only [↓AXq_nil,↓AXq_cons,pval,DX,Nat.reduceBEq,↓DN,UP,DF,Qa,Qb,Qc,Qd,Qe,Qf,Qg,Qh,reduceCtorEq,↓reduceIte,Na,Nb,Nc,Nk,Nf,Ng,Nh,Za,Zb,Zc,TT, g13, c8]
                  refine acallk (right_calls u.a 2 hus.a (by omega) (by omega) _) ?_
                  rintro r sa ⟨rfl, rfl⟩
                  simp only [↓AXq_nil,↓AXq_cons,pval,DX,Nat.reduceBEq,↓DN,UP,DF,Qa,Qb,Qc,Qd,Qe,Qf,Qg,Qh,reduceCtorEq,↓reduceIte,Na,Nb,Nc,Nk,Nf,Ng,Nh,Za,Zb,Zc,TT, g13, c8]
                  refine acallk (right_calls u.a 13 hus.a (by omega) (by omega) _) ?_
                  rintro r sb ⟨rfl, rfl⟩
                  simp only [↓AXq_nil,↓AXq_cons,pval,DX,Nat.reduceBEq,↓DN,UP,DF,Qa,Qb,Qc,Qd,Qe,Qf,Qg,Qh,reduceCtorEq,↓reduceIte,Na,Nb,Nc,Nk,Nf,Ng,Nh,Za,Zb,Zc,TT, g13, c8, z4]
                  refine acallk (right_calls u.a 22 hus.a (by omega) (by omega) _) ?_
                  rintro r sc ⟨rfl, rfl⟩
                  simp only [↓AXq_nil,↓AXq_cons,pval,DX,Nat.reduceBEq,↓DN,UP,DF,Qa,Qb,Qc,Qd,Qe,Qf,Qg,Qh,reduceCtorEq,↓reduceIte,Na,Nb,Nc,Nk,Nf,Ng,Nh,Za,Zb,Zc,TT, g13, c8, z4, z5, wadd, wand u.a u.b hus.a hus.b, wand u.a u.c hus.a hus.c, wand u.b u.c hus.b hus.c, wxor (u.a &&& u.b) (u.a &&& u.c) (lt2 hus.a hus.b) (lt2 hus.a hus.c), wxor ((u.a &&& u.b) ^^^ (u.a &&& u.c)) (u.b &&& u.c) (lx2 (lt2 hus.a hus.b) (lt2 hus.a hus.c)) (lt2 hus.b hus.c)]
                  refine hK _ _ ?_;clear hK K
                  refine awp_drw_end T.mixed [] (by kernel_rfl) ?_
                  intro K hK
                  simp only [↓AXq_nil,↓AXq_cons,pval,DX,Nat.reduceBEq,↓DN,UP,DF,Qa,Qb,Qc,Qd,Qe,Qf,Qg,Qh,reduceCtorEq,↓reduceIte,Na,Nb,Nc,Nk,Nf,Ng,Nh,Za,Zb,Zc,TT, g13, c8, wadd, rep8]
                  refine hK _ _ ?_;clear hK K
                  simp only [thenQ, blockQ, if_true, if_false]
                  refine hK6 _ _ ?_;clear hK6 K6
                  refine wE fun K hK => ?_
                  simp only [↓DN,UP,DF,Qa,Qb,Qc,Qd,Qe,Qf,Qg,Qh,reduceCtorEq,↓reduceIte,Na,Nb,Nc,Nk,Nf,Ng,Nh,Za,Zb,Zc,TT, g14, w_succ t (by omega)]
                  refine hK _ _ ?_;clear hK K
                  refine ⟨⟨t + 1, by omega, (by repeat (first | exact hk | exact hq | refine Kp.upd ?_ (by decide) | refine Kq.upd ?_ (by decide))), (by repeat (first | exact hk | exact hq | refine Kp.upd ?_ (by decide) | refine Kq.upd ?_ (by decide))), ⟨.new, ?_⟩, by simp only [upd, ↓reduceIte], by rw [jw, hWL], jh, hle6⟩, ?_⟩
                  · repeat (first | refine Kr.upd ?_ (by decide))
                    refine ⟨?_⟩
                    simp only [upd, ↓reduceIte]
                    rw [hnxr]
                    rfl
                  · simp only [g14, upd, ↓reduceIte]
                    omega
                · have hlt : ¬ (t : Int) < 64 := by omega
                  obtain rfl : t = 64 := by omega
                  refine wS fun K hK => ?_
                  simp only [↓DN,UP,DF,Qa,Qb,Qc,Qd,Qe,Qf,Qg,Qh,reduceCtorEq,↓reduceIte,Na,Nb,Nc,Nk,Nf,Ng,Nh,Za,Zb,Zc,TT, g14, decide_eq_false hlt]
                  refine hK _ _ ?_;clear hK K
                  refine wC fun X Y hX hY => ?_
                  simp only [↓DN,UP,DF,Qa,Qb,Qc,Qd,Qe,Qf,Qg,Qh,reduceCtorEq,↓reduceIte,Na,Nb,Nc,Nk,Nf,Ng,Nh,Za,Zb,Zc,TT, DB]
                  refine hY ?_;clear hX hY X Y
                  refine awp_exit ?_
                  simp only [thenQ, blockQ, if_true]
                  clear hK5 K5
                  refine hK4 _ _ ?_;clear hK4 K4
                  have hk : Kp oh m pl (.own tk e) i (upd (upd E7 120 (AV.v (.int .i64 ((64 : Nat) : Int)))) 121 (AV.v (.bool false))) := (by repeat (first | exact hk | exact hq | refine Kp.upd ?_ (by decide) | refine Kq.upd ?_ (by decide)))
                  have hv : Kr (stC u) sp' (upd (upd E7 120 (AV.v (.int .i64 ((64 : Nat) : Int)))) 121 (AV.v (.bool false))) := (by repeat (first | exact hk | exact hq | exact hv | refine Kp.upd ?_ (by decide) | refine Kq.upd ?_ (by decide) | refine Kr.upd ?_ (by decide)))
                  generalize (upd (upd E7 120 (AV.v (.int .i64 ((64 : Nat) : Int)))) 121 (AV.v (.bool false))) = E8 at *
                  clear g14
                  rw [hu] at hmix
                  rw [← addL_zero st u] at jh
                  refine wS fun K hK => ?_
                  simp only [↓DN,UP,DF,Qa,Qb,Qc,Qd,Qe,Qf,Qg,Qh,reduceCtorEq,↓reduceIte,Na,Nb,Nc,Nk,Nf,Ng,Nh,Za,Zb,Zc,TT]
                  refine hK _ _ ?_;clear hK K
                  refine awp_block ?_
                  refine awp_loop (fun E s3 => ∃ t : Nat, t ≤ 8 ∧ Kp oh m pl (.own tk e) i E ∧ Kr (stC u) sp' E ∧ E 17 = .v (.int .i64 t) ∧ s3.objs oh = some (addL st u t) ∧ s.le s3)
                    (fun E _ => match E 17 with | .v (.int _ x) => 8 - x.toNat | _ => 0) ?_ ?_
                  · exact ⟨0, by omega, (by repeat (first | exact hk | exact hq | refine Kp.upd ?_ (by decide) | refine Kq.upd ?_ (by decide))), (by repeat (first | exact hk | exact hq | exact hv | refine Kp.upd ?_ (by decide) | refine Kq.upd ?_ (by decide) | refine Kr.upd ?_ (by decide))), by simp only [upd, ↓reduceIte]; rfl, jh, hle6⟩
                  · rintro E9 s7 ⟨t, ht, hk, hv, g17, jh, hle7⟩ -
                    refine wK fun K5 hK5 => ?_
                    by_cases ht' : t < 8
                    · have hlt : (t : Int) < 8 := by omega
                      refine wS fun K hK => ?_
                      simp only [↓DN,UP,DF,Qa,Qb,Qc,Qd,Qe,Qf,Qg,Qh,reduceCtorEq,↓reduceIte,Na,Nb,Nc,Nk,Nf,Ng,Nh,Za,Zb,Zc,TT, g17, decide_eq_true hlt]
                      refine hK _ _ ?_;clear hK K
                      refine wC fun X Y hX hY => ?_
                      simp only [↓DN,UP,DF,Qa,Qb,Qc,Qd,Qe,Qf,Qg,Qh,reduceCtorEq,↓reduceIte,Na,Nb,Nc,Nk,Nf,Ng,Nh,Za,Zb,Zc,TT, DB]
                      refine hX ?_;clear hX hY X Y
                      refine awp_skip ?_
                      refine hK5 _ _ ?_;clear hK5 K5
                      refine wK fun K6 hK6 => ?_
                      refine awp_block ?_
                      have ht0 : (0 : Int) ≤ (t : Int) := by omega
                      have d2 := addL_drop st u t ht'
                      have d5 := stC_drop u t ht'
                      have hset := addL_set st u t ht'
                      have hlen := addL_len st u t ht
                      generalize st.list.getD t 0 = x at *
                      generalize u.list.getD t 0 = y at *
                      have g13 := hv.h13
                      obtain ⟨X, hX⟩ : ∃ X, X = addL st u t := ⟨_, rfl⟩
                      rw [← hX] at d2 hset hlen jh
                      obtain ⟨Y, hY⟩ : ∃ Y, Y = stC u := ⟨_, rfl⟩
                      rw [← hY] at d5 g13
                      have d51 : List.take 1 (List.drop t Y) = [wV y] := by rw [d5]; rfl
                      refine awp_mrk_end T.mixed [(oh, X)] [] [5] [12] (by kernel_rfl) (by simp only [Pres_cons, Pres_nil, and_true]; simp [AS.set, upd, jh]) ?_
                      intro K hK
                      simp only [↓AXr_nil, ↓AXr_cons, gval, lval, fzGet_cons, fzGet_nil, Pres_cons, Pres_nil, List.any_cons, List.any_nil, List.contains_cons, List.contains_nil, Nat.reduceBEq, Bool.or_false, Bool.or_true, Bool.or_self, Bool.false_or, ↓DN,UP,DF,Qa,Qb,Qc,Qd,Qe,Qf,Qg,Qh,reduceCtorEq,↓reduceIte,Na,Nb,Nc,Nk,Nf,Ng,Nh,Za,Zb,Zc,TT, hk.h3, g17, g13, c8, ht0, hlt, d2, d51, jh, wadd, hset, hlen]
                      refine ⟨by omega, hK _ _ ?_⟩
                      clear hK
                      simp only [thenQ, blockQ, if_true, if_false]
                      refine hK6 _ _ ?_;clear hK6 K6
                      refine wE fun K hK => ?_
                      simp only [↓DN,UP,DF,Qa,Qb,Qc,Qd,Qe,Qf,Qg,Qh,reduceCtorEq,↓reduceIte,Na,Nb,Nc,Nk,Nf,Ng,Nh,Za,Zb,Zc,TT, g17, w_succ t (by omega)]
                      refine hK _ _ ?_;clear hK K
                      refine ⟨⟨t + 1, by omega, (by repeat (first | exact hk | exact hq | refine Kp.upd ?_ (by decide) | refine Kq.upd ?_ (by decide))), (by repeat (first | exact hk | exact hq | exact hv | refine Kp.upd ?_ (by decide) | refine Kq.upd ?_ (by decide) | refine Kr.upd ?_ (by decide))), by simp only [upd, ↓reduceIte], AS.set_objs_same _ _ _, AS.le_set hle7 hoh _⟩, ?_⟩
                      simp only [g17, upd, ↓reduceIte]
                      omega
                    · have hlt : ¬ (t : Int) < 8 := by omega
                      obtain rfl : t = 8 := by omega
                      refine wS fun K hK => ?_
                      simp only [↓DN,UP,DF,Qa,Qb,Qc,Qd,Qe,Qf,Qg,Qh,reduceCtorEq,↓reduceIte,Na,Nb,Nc,Nk,Nf,Ng,Nh,Za,Zb,Zc,TT, g17, decide_eq_false hlt]
                      refine hK _ _ ?_;clear hK K
                      refine wC fun X Y hX hY => ?_
                      simp only [↓DN,UP,DF,Qa,Qb,Qc,Qd,Qe,Qf,Qg,Qh,reduceCtorEq,↓reduceIte,Na,Nb,Nc,Nk,Nf,Ng,Nh,Za,Zb,Zc,TT, DB]
                      refine hY ?_;clear hX hY X Y
                      refine awp_exit ?_
                      simp only [thenQ, blockQ, if_true, if_false]
                      refine hK3 _ _ ?_;clear hK3 hK5 K3 K5
                      have h6 := hk.h6
                      have hadd : iadd .i64 ((64 * i : Nat) : Int) 64 = ((64 * (i + 1) : Nat) : Int) := i64_add (64 * i) 64 (by omega)
                      refine wE fun K hK => ?_
                      simp only [↓DN,UP,DF,Qa,Qb,Qc,Qd,Qe,Qf,Qg,Qh,reduceCtorEq,↓reduceIte,Na,Nb,Nc,Nk,Nf,Ng,Nh,Za,Zb,Zc,TT, h6, hadd]
                      refine hK _ _ ?_;clear hK K
                      rw [addL_full, ← hmix, ← hnx] at jh
                      refine ⟨⟨i + 1, hi', ⟨by simp only [upd, hk.h3, Nc, ↓reduceIte], by simp only [upd, hk.h4, Nc, ↓reduceIte], by simp only [upd, hk.h5, Nc, ↓reduceIte], by simp only [upd, ↓reduceIte]⟩, jh, hle7⟩, ?_⟩
                      simp only [upd, ↓reduceIte, Int.toNat_natCast, hmu]
                      omega
    · have hlt : ¬ ((64 * i : Nat) : Int) < ((64 * m : Nat) : Int) := by omega
      obtain rfl : i = m := by omega
      refine wS fun K hK => ?_
      simp only [↓DN,UP,DF,Qa,Qb,Qc,Qd,Qe,Qf,Qg,Qh,reduceCtorEq,↓reduceIte,Na,Nb,Nc,Nk,Nf,Ng,Nh,Za,Zb,Zc,TT, e6, hk.h5, decide_eq_false hlt]
      refine hK _ _ ?_;clear hK K
      refine wC fun X Y hX hY => ?_
      simp only [↓DN,UP,DF,Qa,Qb,Qc,Qd,Qe,Qf,Qg,Qh,reduceCtorEq,↓reduceIte,Na,Nb,Nc,Nk,Nf,Ng,Nh,Za,Zb,Zc,TT, DB]
      refine hY ?_;clear hX hY X Y
      refine awp_exit ?_
      simp only [thenQ, blockQ, if_true]
      clear hK2 K2
      refine hK _ _ ?_;clear hK K
      have h3 := hk.h3
      generalize Sha.hash pl i = u at *
      refine wS fun K hK => ?_
      simp only [↓DN,UP,DF,Qa,Qb,Qc,Qd,Qe,Qf,Qg,Qh,reduceCtorEq,↓reduceIte,Na,Nb,Nc,Nk,Nf,Ng,Nh,Za,Zb,Zc,TT]
      refine hK _ _ ?_;clear hK K
      refine wK fun K hK => ?_
      refine wS fun K hK => ?_
      simp only [↓DN,UP,DF,Qa,Qb,Qc,Qd,Qe,Qf,Qg,Qh,reduceCtorEq,↓reduceIte,Na,Nb,Nc,Nk,Nf,Ng,Nh,Za,Zb,Zc,TT]
      refine hK _ _ ?_;clear hK K
      refine awp_block ?_
      refine awp_loop (fun E s3 => ∃ t : Nat, t ≤ 8 ∧ E 3 = .osl oh 0 1 8 8 ∧ E 19 = .v (.int .i64 t) ∧ s3.objs oh = some (stC u) ∧ OutS s2 (outB u t) (E 18) s3)
        (fun E _ => match E 19 with | .v (.int _ x) => 8 - x.toNat | _ => 0) ?_ ?_
      · exact ⟨0, by omega, by simp only [upd, h3, Nc, ↓reduceIte], by simp only [upd, ↓reduceIte]; rfl, ho, AS.le.refl s2, .inl ⟨rfl, by simp only [upd, Nc, ↓reduceIte]⟩⟩
      · rintro E3 s3 ⟨t, ht, g3, g19, jh, pout⟩ -
        refine wK fun K5 hK5 => ?_
        by_cases ht' : t < 8
        · have hlt : (t : Int) < 8 := by omega
          have ht0 : (0 : Int) ≤ (t : Int) := by omega
          refine wS fun K hK => ?_
          simp only [↓DN,UP,DF,Qa,Qb,Qc,Qd,Qe,Qf,Qg,Qh,reduceCtorEq,↓reduceIte,Na,Nb,Nc,Nk,Nf,Ng,Nh,Za,Zb,Zc,TT, g19, decide_eq_true hlt]
          refine hK _ _ ?_;clear hK K
          refine wC fun X Y hX hY => ?_
          simp only [↓DN,UP,DF,Qa,Qb,Qc,Qd,Qe,Qf,Qg,Qh,reduceCtorEq,↓reduceIte,Na,Nb,Nc,Nk,Nf,Ng,Nh,Za,Zb,Zc,TT, DB]
          refine hX ?_;clear hX hY X Y
          refine awp_skip ?_
          refine hK5 _ _ ?_;clear hK5 K5
          refine wK fun K6 hK6 => ?_
          refine awp_block ?_
          have d5 := stC_drop u t ht'
          have hsucc := outB_succ u t ht'
          have hol := outB_len u t ht
          generalize u.list.getD t 0 = x at *
          have s24 : ishr .u32 (x : Int) 24 = ((x / 2 ^ 24 : Nat) : Int) := wshr x 24 (by decide)
          have s16 : ishr .u32 (x : Int) 16 = ((x / 2 ^ 16 : Nat) : Int) := wshr x 16 (by decide)
          have s8 : ishr .u32 (x : Int) 8 = ((x / 2 ^ 8 : Nat) : Int) := wshr x 8 (by decide)
          generalize hr6 : E3 18 = r6 at pout
          obtain ⟨X, hX⟩ : ∃ X, X = stC u := ⟨_, rfl⟩
          rw [← hX] at d5 jh
          refine awp_mrk_end T.mixed [(oh, X)] [25] [4, 10, 16, 22] [] (by kernel_rfl) (by simp only [Pres_cons, Pres_nil, and_true]; simp [AS.set, upd, jh]) ?_
          intro K hK
          simp only [↓AXr_nil, ↓AXr_cons, gval, lval, fzGet_cons, fzGet_nil, Pres_cons, Pres_nil, List.any_cons, List.any_nil, List.contains_cons, List.contains_nil, Nat.reduceBEq, Bool.or_false, Bool.or_true, Bool.or_self, Bool.false_or, ↓DN,UP,DF,Qa,Qb,Qc,Qd,Qe,Qf,Qg,Qh,reduceCtorEq,↓reduceIte,Na,Nb,Nc,Nk,Nf,Ng,Nh,Za,Zb,Zc,TT, g3, g19, c8, ht0, hlt, d5, jh, s24, s16, s8, rep4, hr6]
          refine aappend_out (ds := Sha.be x) pout rfl (by simp only [Sha.be, List.map_cons, List.map_nil, byte_of]) T.c5 T.b5 (by rw [hol]; simp only [Sha.be, List.length_cons, List.length_nil]; omega) ?_
          intro r2 s6 h6
          rw [hsucc] at h6
          refine ⟨by rw [hX]; exact h6.1.objs _ _ ho, hK _ _ ?_⟩
          clear hK
          simp only [thenQ, blockQ, if_true, if_false]
          refine hK6 _ _ ?_;clear hK6 K6
          refine wE fun K hK => ?_
          simp only [↓DN,UP,DF,Qa,Qb,Qc,Qd,Qe,Qf,Qg,Qh,reduceCtorEq,↓reduceIte,Na,Nb,Nc,Nk,Nf,Ng,Nh,Za,Zb,Zc,TT, g19, w_succ t (by omega)]
          refine hK _ _ ?_;clear hK K
          refine ⟨⟨t + 1, by omega, by simp only [upd, g3, Nc, ↓reduceIte], by simp only [upd, ↓reduceIte], h6.1.objs _ _ ho, by simpa only [upd, Nc, ↓reduceIte] using h6⟩, ?_⟩
          simp only [g19, upd, ↓reduceIte]
          omega
        · have hlt : ¬ (t : Int) < 8 := by omega
          obtain rfl : t = 8 := by omega
          refine wS fun K hK => ?_
          simp only [↓DN,UP,DF,Qa,Qb,Qc,Qd,Qe,Qf,Qg,Qh,reduceCtorEq,↓reduceIte,Na,Nb,Nc,Nk,Nf,Ng,Nh,Za,Zb,Zc,TT, g19, decide_eq_false hlt]
          refine hK _ _ ?_;clear hK K
          refine wC fun X Y hX hY => ?_
          simp only [↓DN,UP,DF,Qa,Qb,Qc,Qd,Qe,Qf,Qg,Qh,reduceCtorEq,↓reduceIte,Na,Nb,Nc,Nk,Nf,Ng,Nh,Za,Zb,Zc,TT, DB]
          refine hY ?_;clear hX hY X Y
          refine awp_exit ?_
          simp only [thenQ, blockQ, if_true]
          clear hK5 K5
          refine hK _ _ ?_;clear hK K
          rw [outB_full, hsum] at pout
          obtain ⟨tz, ez, hz0⟩ := outS_own pout (by rw [← List.length_pos_iff, Sha.sum_length]; decide)
          refine wS fun K hK => ?_
          simp only [↓DN,UP,DF,Qa,Qb,Qc,Qd,Qe,Qf,Qg,Qh,reduceCtorEq,↓reduceIte,Na,Nb,Nc,Nk,Nf,Ng,Nh,Za,Zb,Zc,TT, hz0]
          refine hK _ _ ?_;clear hK K
          refine awp_ret ?_
          simp only [retQ, AEnds, aresL, ares, List.toList_toArray, ↓upd_same]; try simp only [UP,DF,Nc,↓reduceIte,DT]
          exact ⟨_, s, AV.weak.refl _, AS.le.trans hle pout.1, rfl, rfl⟩

end Go.Proofs.YtoagkleecgngdaaGreatDoor


set_option autoImplicit false
namespace Go.Proofs.YtoagkleecgngdaaGreatDoor
open Go Go.AM Go.Proofs



variable {Γ : Nat → List AV}



theorem ba_get' (l : List UInt8) (i : Nat) (h : i < l.length) : (ByteArray.mk l.toArray)[i]? = some l[i] := by
  rw [getElem?_pos (ByteArray.mk l.toArray) i (by simpa [bs_size] using h)]
  rfl
end Go.Proofs.YtoagkleecgngdaaGreatDoor


set_option autoImplicit false
namespace Go.Proofs.YtoagkleecgngdaaGreatDoor
open Go Go.AM Go.Proofs



variable {Γ : Nat → List AV}



/-- n octets, k of them written. -/
def filled (n k : Nat) (c : UInt8) : List UInt8 := List.replicate k c ++ List.replicate (n - k) 0
end Go.Proofs.YtoagkleecgngdaaGreatDoor


set_option autoImplicit false
namespace Go.Proofs.YtoagkleecgngdaaGreatDoor
open Go Go.AM Go.Proofs


variable {Γ : Nat → List AV}

set_option maxHeartbeats 400000 in
theorem slicesClone_calls (o : Nat) (l : List UInt8) (h0 : l ≠ []) (hl : l.length ≤ 2 ^ 40) (s : AS) (ho : s.objs o = some (l.map byteV)) :
    ACalls Tryz.prog Γ 151 [.osl o 0 1 l.length l.length] s (fun r s' => OutS s l r s') := by
  refine acalls_body Tryz.func151 rfl Tryz.ntmps151 Tryz.results151 (by simp) ?_
  have hp : ¬ l.length = 0 := fun e => h0 (List.eq_nil_of_length_eq_zero e)
  refine wS fun K hK => ?_
  simp only [↓DN,UP,DF,Qa,Qb,Qc,Qd,Qe,Qf,Qg,Qh,reduceCtorEq,↓reduceIte,Na,Nb,Nc,Nk,Nf,Ng,Nh,Za,Zb,Zc,TT]
  refine hK _ _ ?_;clear hK K
  refine wK fun K hK => ?_
  refine wS fun K hK => ?_
  simp only [↓DN,UP,DF,Qa,Qb,Qc,Qd,Qe,Qf,Qg,Qh,reduceCtorEq,↓reduceIte,Na,Nb,Nc,Nk,Nf,Ng,Nh,Za,Zb,Zc,TT]
  refine hK _ _ ?_;clear hK K
  refine wC fun X Y hX hY => ?_
  simp only [↓DN,UP,DF,Qa,Qb,Qc,Qd,Qe,Qf,Qg,Qh,reduceCtorEq,↓reduceIte,Na,Nb,Nc,Nk,Nf,Ng,Nh,Za,Zb,Zc,TT, DB]
  refine hY ?_;clear hX hY X Y
  refine awp_skip ?_
  refine hK _ _ ?_;clear hK K
  refine wS fun K hK => ?_
  simp only [↓DN,UP,DF,Qa,Qb,Qc,Qd,Qe,Qf,Qg,Qh,reduceCtorEq,↓reduceIte,Na,Nb,Nc,Nk,Nf,Ng,Nh,Za,Zb,Zc,TT, ho, hp, Nat.le_refl, List.take_length]
  refine ⟨by omega, by omega, fun t ht => hK _ _ ?_⟩
  clear hK K
  refine awp_ret ?_
  simp only [retQ, AEnds, aresL, ares, List.toList_toArray, ↓upd_same]; try simp only [UP,DF,Nc,↓reduceIte,DT]
  exact ⟨_, _, AV.weak.refl _, AS.le.refl _, AS.le_gain (AS.le.refl s) ht 0, .inr ⟨t, 0, ht, by simp [AS.gain, upd], rfl⟩⟩

theorem _root_.Go.AM.OutS.behind {s s' : AS} {l : List UInt8} {r : AV} {o : Nat} {cs : List AV} (h : OutS (s.set o cs) l r s') (ho : s.objs o = none) : OutS s l r s' :=
  ⟨AS.le.trans (AS.le_set (AS.le.refl s) ho _) h.1, h.2⟩
theorem i64_64 : ((64 : Nat) : Int) = 64 := rfl
set_option maxHeartbeats 1000000 in
set_option maxRecDepth 100000 in
theorem macTurned_calls (l : List UInt8) (hl : l.length = 64) (x : UInt8) (s : AS) :
    ACalls Tryz.prog Γ 284 [.agg (l.map byteV), byteV x] s (fun r s' => OutS s (Mac.turn x l) r s') := by
  refine acalls_body Tryz.func284 rfl Tryz.ntmps284 Tryz.results284 (by simp) ?_
  have hl0 : (l.map byteV).length = 64 := by rw [List.length_map, hl]
  rw [show byteV x = .v (.int .u8 (x.toNat : Int)) from rfl]
  refine wS fun K hK => ?_
  simp only [↓DN,UP,DF,Qa,Qb,Qc,Qd,Qe,Qf,Qg,Qh,reduceCtorEq,↓reduceIte,Na,Nb,Nc,Nk,Nf,Ng,Nh,Za,Zb,Zc,TT, hl0]
  intro o ho
  refine hK _ _ ?_;clear hK K
  refine wK fun K hK => ?_
  refine wS fun K hK => ?_
  simp only [↓DN,UP,DF,Qa,Qb,Qc,Qd,Qe,Qf,Qg,Qh,reduceCtorEq,↓reduceIte,Na,Nb,Nc,Nk,Nf,Ng,Nh,Za,Zb,Zc,TT]
  refine hK _ _ ?_;clear hK K
  refine awp_block ?_
  refine awp_loop (fun E s2 => ∃ i : Nat, i ≤ 64 ∧ E 1 = .v (.int .u8 (x.toNat : Int)) ∧ E 2 = .ptr o 0 ∧ E 6 = .v (.int .i64 i) ∧ s2 = s.set o ((Mac.part x l i).map byteV))
    (fun E _ => match E 6 with | .v (.int _ y) => 64 - y.toNat | _ => 0) ?_ ?_
  · exact ⟨0, by omega, by simp only [upd, initE, Nc, ↓reduceIte, List.getD_cons_succ, List.getD_cons_zero], by simp only [upd, Nc, ↓reduceIte], by simp only [upd, ↓reduceIte]; rfl, by rw [Mac.part_zero]⟩
  · rintro E2 s2 ⟨i, hi, g1, g2, g6, rfl⟩ -
    by_cases hi' : i < 64
    · have hlt : (i : Int) < 64 := by omega
      have hlt2 : (i : Int) < ((64 : Nat) : Int) := by omega
      have hi0 : (0 : Int) ≤ (i : Int) := by omega
      have hget := Mac.part_get x l i (by omega)
      have hset := Mac.part_set x l i (by omega)
      have hlen : ((Mac.part x l i).map byteV).length = 64 := by rw [List.length_map, Mac.part_len, hl]
      have hxor := Mac.byte_xor (l.getD i 0) x
      generalize l.getD i 0 = c at *
      rw [show byteV c = .v (.int .u8 (c.toNat : Int)) from rfl] at hget
      rw [show byteV (c ^^^ x) = .v (.int .u8 ((c ^^^ x).toNat : Int)) from rfl] at hset
      refine wS fun K hK => ?_
      simp only [↓DN,UP,DF,Qa,Qb,Qc,Qd,Qe,Qf,Qg,Qh,reduceCtorEq,↓reduceIte,Na,Nb,Nc,Nk,Nf,Ng,Nh,Za,Zb,Zc,TT, g6, decide_eq_true hlt]
      refine hK _ _ ?_;clear hK K
      refine wK fun K2 hK2 => ?_
      refine wC fun X Y hX hY => ?_
      simp only [↓DN,UP,DF,Qa,Qb,Qc,Qd,Qe,Qf,Qg,Qh,reduceCtorEq,↓reduceIte,Na,Nb,Nc,Nk,Nf,Ng,Nh,Za,Zb,Zc,TT, DB]
      refine hX ?_;clear hX hY X Y
      refine awp_skip ?_
      refine hK2 _ _ ?_;clear hK2 K2
      refine wK fun K3 hK3 => ?_
      refine awp_block ?_
      refine wS fun K hK => ?_
      simp only [↓DN,UP,DF,Qa,Qb,Qc,Qd,Qe,Qf,Qg,Qh,reduceCtorEq,↓reduceIte,Na,Nb,Nc,Nk,Nf,Ng,Nh,Za,Zb,Zc,TT, g6]
      refine hK _ _ ?_;clear hK K
      generalize hX0 : (Mac.part x l i).map byteV = X0 at *
      refine wE fun K hK => ?_
      simp only [↓DN,UP,DF,Qa,Qb,Qc,Qd,Qe,Qf,Qg,Qh,reduceCtorEq,↓reduceIte,Na,Nb,Nc,Nk,Nf,Ng,Nh,Za,Zb,Zc,TT, g1, g2, g6, hi0, hlt, hlt2, hlen, hget, hxor, hset, i64_64]
      refine ⟨by omega, ?_⟩
      refine hK _ _ ?_;clear hK K
      simp only [thenQ, blockQ, if_true, if_false]
      refine hK3 _ _ ?_;clear hK3 K3
      refine wE fun K hK => ?_
      simp only [↓DN,UP,DF,Qa,Qb,Qc,Qd,Qe,Qf,Qg,Qh,reduceCtorEq,↓reduceIte,Na,Nb,Nc,Nk,Nf,Ng,Nh,Za,Zb,Zc,TT, g6, w_succ i (by omega)]
      refine hK _ _ ?_;clear hK K
      refine ⟨⟨i + 1, by omega, by simp only [upd, g1, Nc, ↓reduceIte], by simp only [upd, g2, Nc, ↓reduceIte], by simp only [upd, ↓reduceIte], rfl⟩, ?_⟩
      simp only [g6, upd, ↓reduceIte]
      omega
    · have hlt : ¬ (i : Int) < 64 := by omega
      obtain rfl : i = 64 := by omega
      refine wS fun K hK => ?_
      simp only [↓DN,UP,DF,Qa,Qb,Qc,Qd,Qe,Qf,Qg,Qh,reduceCtorEq,↓reduceIte,Na,Nb,Nc,Nk,Nf,Ng,Nh,Za,Zb,Zc,TT, g6, decide_eq_false hlt]
      refine hK _ _ ?_;clear hK K
      refine wK fun K2 hK2 => ?_
      refine wC fun X Y hX hY => ?_
      simp only [↓DN,UP,DF,Qa,Qb,Qc,Qd,Qe,Qf,Qg,Qh,reduceCtorEq,↓reduceIte,Na,Nb,Nc,Nk,Nf,Ng,Nh,Za,Zb,Zc,TT, DB]
      refine hY ?_;clear hX hY X Y
      refine awp_exit ?_
      simp only [thenQ, blockQ, if_true]
      clear hK2 K2
      refine hK _ _ ?_;clear hK K
      rw [Mac.part_all x l 64 (by omega)]
      have htl : (Mac.turn x l).length = 64 := by rw [Mac.turn_len, hl]
      refine wS fun K hK => ?_
      simp only [↓DN,UP,DF,Qa,Qb,Qc,Qd,Qe,Qf,Qg,Qh,reduceCtorEq,↓reduceIte,Na,Nb,Nc,Nk,Nf,Ng,Nh,Za,Zb,Zc,TT, g2, Int.le_refl]
      have hc := slicesClone_calls (Γ := Γ) o (Mac.turn x l) (by rw [← List.length_pos_iff]; omega) (by omega) (s.set o ((Mac.turn x l).map byteV)) (AS.set_objs_same _ _ _)
      rw [htl] at hc
      refine acallk hc ?_
      intro r s3 hout
      simp only [↓AXq_nil,↓AXq_cons,pval,DX,Nat.reduceBEq,↓DN,UP,DF,Qa,Qb,Qc,Qd,Qe,Qf,Qg,Qh,reduceCtorEq,↓reduceIte,Na,Nb,Nc,Nk,Nf,Ng,Nh,Za,Zb,Zc,TT]
      refine hK _ _ ?_;clear hK K
      refine awp_ret ?_
      simp only [retQ, AEnds, aresL, ares, List.toList_toArray, ↓upd_same]; try simp only [UP,DF,Nc,↓reduceIte,DT]
      exact ⟨_, _, AV.weak.refl _, AS.le.refl _, hout.behind ho⟩

end Go.Proofs.YtoagkleecgngdaaGreatDoor


set_option autoImplicit false
namespace Go.Proofs.YtoagkleecgngdaaGreatDoor
open Go Go.AM Go.Proofs


variable {Γ : Nat → List AV}

theorem _root_.Go.AM.OutS.under {s s1 s2 : AS} {l : List UInt8} {r : AV} (h : OutS s1 l r s2) (hle : s.le s1) : OutS s l r s2 := by
  refine ⟨AS.le.trans hle h.1, ?_⟩
  rcases h.2 with h | ⟨t, e, h1, h2, h3⟩
  · exact .inl h
  · refine .inr ⟨t, e, ?_, h2, h3⟩
    cases hs : s.own t with
    | none => rfl
    | some g => rw [hle.own t g hs] at h1; cases h1

theorem z111 : zcells Tryz.prog 301 = some (List.replicate 64 (.v (.int .u8 0))) := by kernel_rfl

set_option maxHeartbeats 2000000 in
set_option maxRecDepth 100000 in
theorem macTag_calls (hG0 : Γ 0 = stC Sha.H0) (hG : Γ 1 = Sha.K.map wV) (key : List UInt8) (ls : List (List UInt8)) (sp : Sp) (hk : key.length ≤ 2 ^ 38) (hn : ls.length ≤ 2 ^ 38) (hl : ls.flatten.length ≤ 2 ^ 38) (s : AS) :
    ACalls Tryz.prog Γ 265 [bytesV key .any, .sl 1 ls.length (PartsB ls) sp] s (fun r s' => OutS s (Mac.tag key ls.flatten) r s') := by
  refine acalls_body Tryz.func265 rfl Tryz.ntmps265 Tryz.results265 (by simp) ?_
  refine wS fun K hK => ?_
  simp only [↓DN,UP,DF,Qa,Qb,Qc,Qd,Qe,Qf,Qg,Qh,reduceCtorEq,↓reduceIte,Na,Nb,Nc,Nk,Nf,Ng,Nh,Za,Zb,Zc,TT]
  refine hK _ _ ?_;clear hK K
  refine wK fun K hK => ?_
  have hgo : ∀ (E1 : Env) (s1 : AS) (sp1 : Sp), E1 0 = .sl 1 (Mac.key key).length ((Mac.key key).map byteV) sp1 → E1 1 = .sl 1 ls.length (PartsB ls) sp → s.le s1 → K E1 s1 := by
    intro E1 s1 sp1 e0 e1 hle
    refine hK _ _ ?_;clear hK K
    have hkl := Mac.key_le key
    generalize hkk : Mac.key key = kk at *
    refine wS fun K hK => ?_
    simp only [↓DN,UP,DF,Qa,Qb,Qc,Qd,Qe,Qf,Qg,Qh,reduceCtorEq,↓reduceIte,Na,Nb,Nc,Nk,Nf,Ng,Nh,Za,Zb,Zc,TT, z111]
    intro o ho
    refine hK _ _ ?_;clear hK K
    have h0 : (0 : Int) ≤ ((64 : Nat) : Int) := by decide
    have htk : (kk.map byteV).take kk.length = kk.map byteV := List.take_of_length_le (by simp)
    have hmin : min kk.length 64 = kk.length := Nat.min_eq_left hkl
    have hfr : asetAll (List.replicate 64 (.v (.int .u8 0))) 0 (kk.map byteV) = (Mac.fill kk).map byteV := Mac.fill_front kk hkl
    refine wS fun K hK => ?_
    simp only [↓DN,UP,DF,Qa,Qb,Qc,Qd,Qe,Qf,Qg,Qh,reduceCtorEq,↓reduceIte,Na,Nb,Nc,Nk,Nf,Ng,Nh,Za,Zb,Zc,TT, e0, h0, Int.le_refl, ite_self, hmin, htk, hfr, List.length_replicate, hkl]
    refine hK _ _ ?_;clear hK K
    have hfl := Mac.fill_len kk hkl
    have hfl0 : ((Mac.fill kk).map byteV).length = 64 := by rw [List.length_map, hfl]
    have htf : ((Mac.fill kk).map byteV).take 64 = (Mac.fill kk).map byteV := List.take_of_length_le (by omega)
    have rep2 : ∀ x : AV, List.replicate 2 x = [x, x] := fun _ => rfl
    generalize hb : Mac.fill kk = bl at *
    have ht1 := macTurned_calls (Γ := Γ) bl hfl 54
    have ht2 := macTurned_calls (Γ := Γ) bl hfl 92
    have tl1 : (Mac.turn 54 bl).length = 64 := by rw [Mac.turn_len, hfl]
    have tl2 : (Mac.turn 92 bl).length = 64 := by rw [Mac.turn_len, hfl]
    rw [show byteV 54 = .v (.int .u8 54) from rfl] at ht1
    rw [show byteV 92 = .v (.int .u8 92) from rfl] at ht2
    refine wS fun K hK => ?_
    simp only [↓DN,UP,DF,Qa,Qb,Qc,Qd,Qe,Qf,Qg,Qh,reduceCtorEq,↓reduceIte,Na,Nb,Nc,Nk,Nf,Ng,Nh,Za,Zb,Zc,TT, htf, hfl0, Nat.le_refl]
    refine acallk (ht1 _) ?_
    intro r s2 hout
    have hle2 : s.le s2 := (AS.le.trans hle (AS.le_set (AS.le.refl s1) ho _)).trans hout.1
    have ho2 : s2.objs o = some (bl.map byteV) := hout.1.objs _ _ (AS.set_objs_same _ _ _)
    have hw1 := hout.weak
    obtain ⟨t1, g1, rfl⟩ := outS_own hout (by rw [← List.length_pos_iff, tl1]; decide)
    clear hout
    simp only [↓AXq_nil,↓AXq_cons,pval,DX,Nat.reduceBEq,↓DN,UP,DF,Qa,Qb,Qc,Qd,Qe,Qf,Qg,Qh,reduceCtorEq,↓reduceIte,Na,Nb,Nc,Nk,Nf,Ng,Nh,Za,Zb,Zc,TT, e1]
    refine acallk (concat_calls ls sp (by omega) (by omega) _) ?_
    intro r s3 hout
    have hle3 : s.le s3 := AS.le.trans hle2 hout.1
    have ho3 : s3.objs o = some (bl.map byteV) := hout.1.objs _ _ ho2
    have hw2 := hout.weak
    have hs1 := sum_calls (Γ := Γ) hG0 hG [Mac.turn 54 bl, ls.flatten] .new (by simp) (by simp only [List.flatten_cons, List.flatten_nil, List.append_nil, List.length_append, tl1]; omega) s3
    rw [show [Mac.turn 54 bl, ls.flatten].flatten = Mac.turn 54 bl ++ ls.flatten from by simp] at hs1
    have hin : Sha.sum (Mac.turn 54 bl ++ ls.flatten) = Mac.inner key ls.flatten := by rw [Mac.inner, hkk, hb]
    have htag : Sha.sum (Mac.turn 92 bl ++ Mac.inner key ls.flatten) = Mac.tag key ls.flatten := by rw [Mac.tag, hkk, hb]
    rw [hin] at hs1
    have hpost : ∀ (E2 : Env) (s4 : AS) (r : AV), E2 5 = .ptr o 0 → E2 6 = r → OutS s3 (Mac.inner key ls.flatten) r s4 → K E2 s4 := by
      intro E2 s4 r g5 g6 hout
      refine hK _ _ ?_;clear hK K
      have hle4 : s.le s4 := AS.le.trans hle3 hout.1
      have ho4 : s4.objs o = some (bl.map byteV) := hout.1.objs _ _ ho3
      have hw3 := hout.weak
      have hil := Mac.inner_len key ls.flatten
      obtain ⟨t3, g3, rfl⟩ := outS_own hout (by rw [← List.length_pos_iff, hil]; decide)
      clear hout
      refine wS fun K hK => ?_
      simp only [↓DN,UP,DF,Qa,Qb,Qc,Qd,Qe,Qf,Qg,Qh,reduceCtorEq,↓reduceIte,Na,Nb,Nc,Nk,Nf,Ng,Nh,Za,Zb,Zc,TT, g5, ho4, htf, hfl0, Nat.le_refl]
      refine acallk (ht2 _) ?_
      intro r s5 hout
      have hw4 := hout.weak
      have hle5 : s.le s5 := AS.le.trans hle4 hout.1
      obtain ⟨t4, g4, rfl⟩ := outS_own hout (by rw [← List.length_pos_iff, tl2]; decide)
      clear hout
      have hs2 := sum_calls (Γ := Γ) hG0 hG [Mac.turn 92 bl, Mac.inner key ls.flatten] .new (by simp) (by simp only [List.flatten_cons, List.flatten_nil, List.append_nil, List.length_append, tl2, hil]; omega) s5
      rw [show [Mac.turn 92 bl, Mac.inner key ls.flatten].flatten = Mac.turn 92 bl ++ Mac.inner key ls.flatten from by simp, htag] at hs2
      simp only [↓AXq_nil,↓AXq_cons,pval,DX,Nat.reduceBEq,↓DN,UP,DF,Qa,Qb,Qc,Qd,Qe,Qf,Qg,Qh,reduceCtorEq,↓reduceIte,Na,Nb,Nc,Nk,Nf,Ng,Nh,Za,Zb,Zc,TT, g6, rep2]
      refine acallk (ACalls.weaks (AVs.weak.cons (AV.weak_slc (AVs.weak.cons hw4 (AVs.weak.cons hw3 AVs.weak.nil))) AVs.weak.nil) hs2) ?_
      intro r s6 hout
      simp only [↓AXq_nil,↓AXq_cons,pval,DX,Nat.reduceBEq,↓DN,UP,DF,Qa,Qb,Qc,Qd,Qe,Qf,Qg,Qh,reduceCtorEq,↓reduceIte,Na,Nb,Nc,Nk,Nf,Ng,Nh,Za,Zb,Zc,TT]
      refine hK _ _ ?_;clear hK K
      refine awp_ret ?_
      simp only [retQ, AEnds, aresL, ares, List.toList_toArray, ↓upd_same]; try simp only [UP,DF,Nc,↓reduceIte,DT]
      exact ⟨_, _, AV.weak.refl _, AS.le.refl _, hout.under hle5⟩
    rcases hout.2 with ⟨_, rfl⟩ | ⟨t2, g2, _, _, rfl⟩
    all_goals
      simp only [↓AXq_nil,↓AXq_cons,pval,DX,Nat.reduceBEq,↓DN,UP,DF,Qa,Qb,Qc,Qd,Qe,Qf,Qg,Qh,reduceCtorEq,↓reduceIte,Na,Nb,Nc,Nk,Nf,Ng,Nh,Za,Zb,Zc,TT, rep2]
      refine acallk (ACalls.weaks (AVs.weak.cons (AV.weak_slc (AVs.weak.cons hw1 (AVs.weak.cons hw2 AVs.weak.nil))) AVs.weak.nil) hs1) ?_
      intro r s4 hout
      simp only [↓AXq_nil,↓AXq_cons,pval,DX,Nat.reduceBEq,↓DN,UP,DF,Qa,Qb,Qc,Qd,Qe,Qf,Qg,Qh,reduceCtorEq,↓reduceIte,Na,Nb,Nc,Nk,Nf,Ng,Nh,Za,Zb,Zc,TT]
      refine hpost _ _ r ?_ ?_ hout
      · simp only [upd, Nc, ↓reduceIte]
      · simp only [upd, ↓reduceIte]
  by_cases hlong : 64 < key.length
  · have hkey : Mac.key key = Sha.sum key := by rw [Mac.key, if_pos hlong]
    rw [hkey] at hgo
    refine wS fun K hK => ?_
    simp only [↓DN,UP,DF,Qa,Qb,Qc,Qd,Qe,Qf,Qg,Qh,reduceCtorEq,↓reduceIte,Na,Nb,Nc,Nk,Nf,Ng,Nh,Za,Zb,Zc,TT, decide_eq_true (show (64 : Int) < (key.length : Int) by omega)]
    refine hK _ _ ?_;clear hK K
    refine wC fun X Y hX hY => ?_
    simp only [↓DN,UP,DF,Qa,Qb,Qc,Qd,Qe,Qf,Qg,Qh,reduceCtorEq,↓reduceIte,Na,Nb,Nc,Nk,Nf,Ng,Nh,Za,Zb,Zc,TT, DB]
    refine hX ?_;clear hX hY X Y
    refine wE fun K hK => ?_
    simp only [↓DN,UP,DF,Qa,Qb,Qc,Qd,Qe,Qf,Qg,Qh,reduceCtorEq,↓reduceIte,Na,Nb,Nc,Nk,Nf,Ng,Nh,Za,Zb,Zc,TT, List.replicate_one]
    have hs0 := sum_calls (Γ := Γ) hG0 hG [key] .new (by simp) (by simp; omega) s
    rw [show [key].flatten = key from by simp] at hs0
    refine acallk hs0 ?_
    intro r s1 hout
    obtain ⟨t, g, rfl⟩ := outS_own hout (by rw [← List.length_pos_iff, Sha.sum_length]; decide)
    simp only [↓AXq_nil,↓AXq_cons,pval,DX,Nat.reduceBEq,↓DN,UP,DF,Qa,Qb,Qc,Qd,Qe,Qf,Qg,Qh,reduceCtorEq,↓reduceIte,Na,Nb,Nc,Nk,Nf,Ng,Nh,Za,Zb,Zc,TT]
    refine hK _ _ ?_;clear hK K
    simp only [thenQ]
    refine hgo _ _ (.own t g) ?_ ?_ hout.1
    · simp only [upd, ↓reduceIte]
    · simp only [upd, initE, Nc, ↓reduceIte, List.getD_cons_succ, List.getD_cons_zero]
  · have hkey : Mac.key key = key := by rw [Mac.key, if_neg hlong]
    rw [hkey] at hgo
    refine wS fun K hK => ?_
    simp only [↓DN,UP,DF,Qa,Qb,Qc,Qd,Qe,Qf,Qg,Qh,reduceCtorEq,↓reduceIte,Na,Nb,Nc,Nk,Nf,Ng,Nh,Za,Zb,Zc,TT, decide_eq_false (show ¬ (64 : Int) < (key.length : Int) by omega)]
    refine hK _ _ ?_;clear hK K
    refine wC fun X Y hX hY => ?_
    simp only [↓DN,UP,DF,Qa,Qb,Qc,Qd,Qe,Qf,Qg,Qh,reduceCtorEq,↓reduceIte,Na,Nb,Nc,Nk,Nf,Ng,Nh,Za,Zb,Zc,TT, DB]
    refine hY ?_;clear hX hY X Y
    refine awp_skip ?_
    simp only [thenQ]
    refine hgo _ _ .any ?_ ?_ (AS.le.refl s)
    · simp only [upd, initE, Nc, ↓reduceIte, List.getD_cons_succ, List.getD_cons_zero, bytesV]
    · simp only [upd, initE, Nc, ↓reduceIte, List.getD_cons_succ, List.getD_cons_zero]

end Go.Proofs.YtoagkleecgngdaaGreatDoor


set_option autoImplicit false
namespace Go.Proofs.YtoagkleecgngdaaGreatDoor
open Go Go.AM Go.Proofs


variable {Γ : Nat → List AV}

theorem fill_get (k : List UInt8) (i : Nat) (h : i < k.length) (hk : k.length ≤ 64) : (Mac.fill k)[i]'(by rw [Mac.fill_len k hk]; omega) = k[i] := by
  simp only [Mac.fill]
  rw [List.getElem_append_left h]
theorem fill_nil (k : List UInt8) (i : Nat) (h : ¬ i < k.length) (hi : i < 64) (hk : k.length ≤ 64) : (Mac.fill k)[i]'(by rw [Mac.fill_len k hk]; omega) = 0 := by
  simp only [Mac.fill]
  rw [List.getElem_append_right (by omega), List.getElem_replicate]
theorem turn_succ (x : UInt8) (l : List UInt8) (i : Nat) (h : i < l.length) : Mac.turn x (l.take (i + 1)) = Mac.turn x (l.take i) ++ [l[i] ^^^ x] := by
  rw [List.take_succ_eq_append_getElem h]
  simp only [Mac.turn, List.map_append, List.map_cons, List.map_nil]

set_option maxHeartbeats 2000000 in
set_option maxRecDepth 100000 in
theorem refWith03_calls (key : List UInt8) (hk : key.length ≤ 64) (x : UInt8) (s : AS) :
    ACalls Tryz.prog Γ 289 [.v (.string ⟨key.toArray⟩), .v (.int .u8 (x.toNat : Int))] s (fun r s' => r = .v (.string ⟨(Mac.turn x (Mac.fill key)).toArray⟩) ∧ s' = s) := by
  refine acalls_body Tryz.func289 rfl Tryz.ntmps289 Tryz.results289 (by simp) ?_
  have hfl := Mac.fill_len key hk
  refine wS fun K hK => ?_
  simp only [↓DN,UP,DF,Qa,Qb,Qc,Qd,Qe,Qf,Qg,Qh,reduceCtorEq,↓reduceIte,Na,Nb,Nc,Nk,Nf,Ng,Nh,Za,Zb,Zc,TT]
  refine hK _ _ ?_;clear hK K
  refine wS fun K hK => ?_
  simp only [↓DN,UP,DF,Qa,Qb,Qc,Qd,Qe,Qf,Qg,Qh,reduceCtorEq,↓reduceIte,Na,Nb,Nc,Nk,Nf,Ng,Nh,Za,Zb,Zc,TT]
  refine hK _ _ ?_;clear hK K
  refine wK fun K hK => ?_
  refine wS fun K hK => ?_
  simp only [↓DN,UP,DF,Qa,Qb,Qc,Qd,Qe,Qf,Qg,Qh,reduceCtorEq,↓reduceIte,Na,Nb,Nc,Nk,Nf,Ng,Nh,Za,Zb,Zc,TT]
  refine hK _ _ ?_;clear hK K
  refine awp_block ?_
  refine awp_loop (fun E s1 => ∃ i : Nat, i ≤ 64 ∧ E 0 = .v (.string ⟨key.toArray⟩) ∧ E 1 = .v (.int .u8 (x.toNat : Int)) ∧ E 6 = .v (.int .i64 i) ∧ OutS s (Mac.turn x ((Mac.fill key).take i)) (E 5) s1)
    (fun E _ => match E 6 with | .v (.int _ i) => 64 - i.toNat | _ => 0) ?_ ?_
  · exact ⟨0, Nat.zero_le _, by simp only [upd, initE, Nc, ↓reduceIte, List.getD_cons_succ, List.getD_cons_zero], by simp only [upd, initE, Nc, ↓reduceIte, List.getD_cons_succ, List.getD_cons_zero], by simp only [upd, ↓reduceIte]; rfl, by simp only [upd, Nc, ↓reduceIte]; exact OutS.nil s⟩
  · rintro E1 s1 ⟨i, hi, e0, e1, e6, hout⟩ -
    refine wK fun K2 hK2 => ?_
    by_cases hi' : i < 64
    · have hlt : (i : Int) < 64 := by omega
      have hge : (0 : Int) ≤ (i : Int) := by omega
      have hts := turn_succ x (Mac.fill key) i (by omega)
      have hg1 := fill_get key i
      have hg2 := fill_nil key i
      refine wS fun K hK => ?_
      simp only [↓DN,UP,DF,Qa,Qb,Qc,Qd,Qe,Qf,Qg,Qh,reduceCtorEq,↓reduceIte,Na,Nb,Nc,Nk,Nf,Ng,Nh,Za,Zb,Zc,TT, e6, decide_eq_true hlt]
      refine hK _ _ ?_;clear hK K
      refine wC fun X Y hX hY => ?_
      simp only [↓DN,UP,DF,Qa,Qb,Qc,Qd,Qe,Qf,Qg,Qh,reduceCtorEq,↓reduceIte,Na,Nb,Nc,Nk,Nf,Ng,Nh,Za,Zb,Zc,TT, DB]
      refine hX ?_;clear hX hY X Y
      refine awp_skip ?_
      refine hK2 _ _ ?_;clear hK2 K2
      refine wK fun K3 hK3 => ?_
      refine awp_block ?_
      refine wS fun K hK => ?_
      simp only [↓DN,UP,DF,Qa,Qb,Qc,Qd,Qe,Qf,Qg,Qh,reduceCtorEq,↓reduceIte,Na,Nb,Nc,Nk,Nf,Ng,Nh,Za,Zb,Zc,TT]
      refine hK _ _ ?_;clear hK K
      refine wK fun K4 hK4 => ?_
      have hgo : ∀ (E2 : Env) (c : UInt8), (Mac.fill key)[i]'(by omega) = c → E2 0 = .v (.string ⟨key.toArray⟩) → E2 1 = .v (.int .u8 (x.toNat : Int)) → E2 6 = .v (.int .i64 i) → E2 5 = E1 5 → E2 7 = .v (.int .u8 (c.toNat : Int)) → K4 E2 s1 := by
        intro E2 c hc f0 f1 f6 f5 f7
        refine hK4 _ _ ?_;clear hK4 K4
        rw [hc] at hts
        have hxor := Mac.byte_xor c x
        generalize hr6 : E1 5 = r6 at hout f5
        refine wE fun K hK => ?_
        simp only [↓DN,UP,DF,Qa,Qb,Qc,Qd,Qe,Qf,Qg,Qh,reduceCtorEq,↓reduceIte,Na,Nb,Nc,Nk,Nf,Ng,Nh,Za,Zb,Zc,TT, f0, f1, f5, f6, f7, hxor, List.replicate_one]
        refine aappend_out (ds := [c ^^^ x]) hout rfl rfl T.c5 T.b5 (by simp [Mac.turn]; omega) ?_
        intro r2 s2 h2
        rw [← hts] at h2
        refine hK _ _ ?_;clear hK K
        simp only [thenQ, blockQ, if_true, if_false]
        refine hK3 _ _ ?_;clear hK3 K3
        refine wE fun K hK => ?_
        simp only [↓DN,UP,DF,Qa,Qb,Qc,Qd,Qe,Qf,Qg,Qh,reduceCtorEq,↓reduceIte,Na,Nb,Nc,Nk,Nf,Ng,Nh,Za,Zb,Zc,TT, f6, w_succ i (by omega)]
        refine hK _ _ ?_;clear hK K
        refine ⟨⟨i + 1, by omega, by simp only [upd, f0, Nc, ↓reduceIte], by simp only [upd, f1, Nc, ↓reduceIte], by simp only [upd, ↓reduceIte], by simpa only [upd, Nc, ↓reduceIte] using h2⟩, ?_⟩
        simp only [e6, upd, ↓reduceIte]
        omega
      by_cases hik : i < key.length
      · have hget := ba_get' key i hik
        have hg := hg1 hik hk
        generalize key[i] = c at *
        refine wS fun K hK => ?_
        simp only [↓DN,UP,DF,Qa,Qb,Qc,Qd,Qe,Qf,Qg,Qh,reduceCtorEq,↓reduceIte,Na,Nb,Nc,Nk,Nf,Ng,Nh,Za,Zb,Zc,TT, e0, e6, bs_size, decide_eq_true (show (i : Int) < (key.length : Int) by omega)]
        refine hK _ _ ?_;clear hK K
        refine wC fun X Y hX hY => ?_
        simp only [↓DN,UP,DF,Qa,Qb,Qc,Qd,Qe,Qf,Qg,Qh,reduceCtorEq,↓reduceIte,Na,Nb,Nc,Nk,Nf,Ng,Nh,Za,Zb,Zc,TT, DB]
        refine hX ?_;clear hX hY X Y
        refine wE fun K hK => ?_
        simp only [↓DN,UP,DF,Qa,Qb,Qc,Qd,Qe,Qf,Qg,Qh,reduceCtorEq,↓reduceIte,Na,Nb,Nc,Nk,Nf,Ng,Nh,Za,Zb,Zc,TT, e0, e6, hge, hget]
        refine hK _ _ ?_
        clear hK
        simp only [thenQ]
        refine hgo _ c hg ?_ ?_ ?_ ?_ ?_
        · simp only [upd, e0, Nc, ↓reduceIte]
        · simp only [upd, e1, Nc, ↓reduceIte]
        · simp only [upd, e6, Nc, ↓reduceIte]
        · simp only [upd, Nc, ↓reduceIte]
        · simp only [upd, ↓reduceIte]
          rfl
      · have hg := hg2 hik hi' hk
        refine wS fun K hK => ?_
        simp only [↓DN,UP,DF,Qa,Qb,Qc,Qd,Qe,Qf,Qg,Qh,reduceCtorEq,↓reduceIte,Na,Nb,Nc,Nk,Nf,Ng,Nh,Za,Zb,Zc,TT, e0, e6, bs_size, decide_eq_false (show ¬ (i : Int) < (key.length : Int) by omega)]
        refine hK _ _ ?_;clear hK K
        refine wC fun X Y hX hY => ?_
        simp only [↓DN,UP,DF,Qa,Qb,Qc,Qd,Qe,Qf,Qg,Qh,reduceCtorEq,↓reduceIte,Na,Nb,Nc,Nk,Nf,Ng,Nh,Za,Zb,Zc,TT, DB]
        refine hY ?_;clear hX hY X Y
        refine awp_skip ?_
        simp only [thenQ]
        refine hgo _ 0 hg ?_ ?_ ?_ ?_ ?_
        · simp only [upd, e0, Nc, ↓reduceIte]
        · simp only [upd, e1, Nc, ↓reduceIte]
        · simp only [upd, e6, Nc, ↓reduceIte]
        · simp only [upd, Nc, ↓reduceIte]
        · simp only [upd, Nc, ↓reduceIte]
          rfl
    · have hlt : ¬ (i : Int) < 64 := by omega
      obtain rfl : i = 64 := by omega
      refine wS fun K hK => ?_
      simp only [↓DN,UP,DF,Qa,Qb,Qc,Qd,Qe,Qf,Qg,Qh,reduceCtorEq,↓reduceIte,Na,Nb,Nc,Nk,Nf,Ng,Nh,Za,Zb,Zc,TT, e6, decide_eq_false hlt]
      refine hK _ _ ?_;clear hK K
      refine wC fun X Y hX hY => ?_
      simp only [↓DN,UP,DF,Qa,Qb,Qc,Qd,Qe,Qf,Qg,Qh,reduceCtorEq,↓reduceIte,Na,Nb,Nc,Nk,Nf,Ng,Nh,Za,Zb,Zc,TT, DB]
      refine hY ?_;clear hX hY X Y
      refine awp_exit ?_
      simp only [thenQ, blockQ, if_true]
      clear hK2 K2
      refine hK _ _ ?_;clear hK K
      rw [List.take_of_length_le (by omega)] at hout
      have htl : (Mac.turn x (Mac.fill key)).length = 64 := by rw [Mac.turn_len, hfl]
      have hle := hout.1
      obtain ⟨t, g, e5⟩ := outS_own hout (by rw [← List.length_pos_iff, htl]; decide)
      refine wS fun K hK => ?_
      simp only [↓DN,UP,DF,Qa,Qb,Qc,Qd,Qe,Qf,Qg,Qh,reduceCtorEq,↓reduceIte,Na,Nb,Nc,Nk,Nf,Ng,Nh,Za,Zb,Zc,TT, e5]
      refine hK _ _ ?_;clear hK K
      refine awp_ret ?_
      simp only [retQ, AEnds, aresL, ares, List.toList_toArray, ↓upd_same]; try simp only [UP,DF,Nc,↓reduceIte,DT]
      exact ⟨_, _, AV.weak.refl _, hle, rfl, rfl⟩

set_option maxHeartbeats 2000000 in
set_option maxRecDepth 100000 in
theorem refTag_calls (key l : List UInt8) (hk : key.length ≤ 2 ^ 38) (hl : l.length ≤ 2 ^ 38) (s : AS) :
    ACalls Tryz.prog Γ 268 [.v (.string ⟨key.toArray⟩), .v (.string ⟨l.toArray⟩)] s (fun r s' => r = .v (.string ⟨(Mac.tag key l).toArray⟩) ∧ s' = s) := by
  refine acalls_body Tryz.func268 rfl Tryz.ntmps268 Tryz.results268 (by simp) ?_
  refine wS fun K hK => ?_
  simp only [↓DN,UP,DF,Qa,Qb,Qc,Qd,Qe,Qf,Qg,Qh,reduceCtorEq,↓reduceIte,Na,Nb,Nc,Nk,Nf,Ng,Nh,Za,Zb,Zc,TT]
  refine hK _ _ ?_;clear hK K
  refine wK fun K hK => ?_
  have hgo : ∀ (E1 : Env), E1 0 = .v (.string ⟨(Mac.key key).toArray⟩) → E1 1 = .v (.string ⟨l.toArray⟩) → K E1 s := by
    intro E1 e0 e1
    refine hK _ _ ?_;clear hK K
    have hkl := Mac.key_le key
    have hin : Sha.sum (Mac.turn 54 (Mac.fill (Mac.key key)) ++ l) = Mac.inner key l := rfl
    have htag : Sha.sum (Mac.turn 92 (Mac.fill (Mac.key key)) ++ Mac.inner key l) = Mac.tag key l := rfl
    have hfl := Mac.fill_len _ hkl
    have hil := Mac.inner_len key l
    have tl1 : (Mac.turn 54 (Mac.fill (Mac.key key))).length = 64 := by rw [Mac.turn_len, hfl]
    have tl2 : (Mac.turn 92 (Mac.fill (Mac.key key))).length = 64 := by rw [Mac.turn_len, hfl]
    generalize hkk : Mac.key key = kk at *
    refine wS fun K hK => ?_
    simp only [↓DN,UP,DF,Qa,Qb,Qc,Qd,Qe,Qf,Qg,Qh,reduceCtorEq,↓reduceIte,Na,Nb,Nc,Nk,Nf,Ng,Nh,Za,Zb,Zc,TT, e0]
    refine acallk (refWith03_calls kk hkl 92 s) ?_
    rintro r s1 ⟨rfl, rfl⟩
    simp only [↓AXq_nil,↓AXq_cons,pval,DX,Nat.reduceBEq,↓DN,UP,DF,Qa,Qb,Qc,Qd,Qe,Qf,Qg,Qh,reduceCtorEq,↓reduceIte,Na,Nb,Nc,Nk,Nf,Ng,Nh,Za,Zb,Zc,TT, e0]
    refine acallk (refWith03_calls kk hkl 54 s1) ?_
    rintro r s2 ⟨rfl, rfl⟩
    simp only [↓AXq_nil,↓AXq_cons,pval,DX,Nat.reduceBEq,↓DN,UP,DF,Qa,Qb,Qc,Qd,Qe,Qf,Qg,Qh,reduceCtorEq,↓reduceIte,Na,Nb,Nc,Nk,Nf,Ng,Nh,Za,Zb,Zc,TT, e1, i64_room (show (Mac.turn 54 (Mac.fill kk)).length + l.length < 2 ^ 62 by omega)]
    refine acallk (refSum_calls (Mac.turn 54 (Mac.fill kk) ++ l) (by rw [List.length_append, tl1]; omega) s2) ?_
    rintro r s3 ⟨rfl, rfl⟩
    rw [hin]
    simp only [↓AXq_nil,↓AXq_cons,pval,DX,Nat.reduceBEq,↓DN,UP,DF,Qa,Qb,Qc,Qd,Qe,Qf,Qg,Qh,reduceCtorEq,↓reduceIte,Na,Nb,Nc,Nk,Nf,Ng,Nh,Za,Zb,Zc,TT, i64_room (show (Mac.turn 92 (Mac.fill kk)).length + (Mac.inner key l).length < 2 ^ 62 by omega)]
    refine acallk (refSum_calls (Mac.turn 92 (Mac.fill kk) ++ Mac.inner key l) (by rw [List.length_append, tl2, hil]; decide) s3) ?_
    rintro r s4 ⟨rfl, rfl⟩
    rw [htag]
    simp only [↓AXq_nil,↓AXq_cons,pval,DX,Nat.reduceBEq,↓DN,UP,DF,Qa,Qb,Qc,Qd,Qe,Qf,Qg,Qh,reduceCtorEq,↓reduceIte,Na,Nb,Nc,Nk,Nf,Ng,Nh,Za,Zb,Zc,TT]
    refine hK _ _ ?_;clear hK K
    refine awp_ret ?_
    simp only [retQ, AEnds, aresL, ares, List.toList_toArray, ↓upd_same]; try simp only [UP,DF,Nc,↓reduceIte,DT]
    exact ⟨_, _, AV.weak.refl _, AS.le.refl _, rfl, rfl⟩
  by_cases hlong : 64 < key.length
  · have hkey : Mac.key key = Sha.sum key := by rw [Mac.key, if_pos hlong]
    rw [hkey] at hgo
    refine wS fun K hK => ?_
    simp only [↓DN,UP,DF,Qa,Qb,Qc,Qd,Qe,Qf,Qg,Qh,reduceCtorEq,↓reduceIte,Na,Nb,Nc,Nk,Nf,Ng,Nh,Za,Zb,Zc,TT, decide_eq_true (show (64 : Int) < (key.length : Int) by omega)]
    refine hK _ _ ?_;clear hK K
    refine wC fun X Y hX hY => ?_
    simp only [↓DN,UP,DF,Qa,Qb,Qc,Qd,Qe,Qf,Qg,Qh,reduceCtorEq,↓reduceIte,Na,Nb,Nc,Nk,Nf,Ng,Nh,Za,Zb,Zc,TT, DB]
    refine hX ?_;clear hX hY X Y
    refine wE fun K hK => ?_
    simp only [↓DN,UP,DF,Qa,Qb,Qc,Qd,Qe,Qf,Qg,Qh,reduceCtorEq,↓reduceIte,Na,Nb,Nc,Nk,Nf,Ng,Nh,Za,Zb,Zc,TT]
    refine acallk (refSum_calls key (by omega) s) ?_
    rintro r s1 ⟨rfl, rfl⟩
    simp only [↓AXq_nil,↓AXq_cons,pval,DX,Nat.reduceBEq,↓DN,UP,DF,Qa,Qb,Qc,Qd,Qe,Qf,Qg,Qh,reduceCtorEq,↓reduceIte,Na,Nb,Nc,Nk,Nf,Ng,Nh,Za,Zb,Zc,TT]
    refine hK _ _ ?_;clear hK K
    simp only [thenQ]
    refine hgo _ ?_ ?_
    · simp only [upd, ↓reduceIte]
    · simp only [upd, initE, Nc, ↓reduceIte, List.getD_cons_succ, List.getD_cons_zero]
  · have hkey : Mac.key key = key := by rw [Mac.key, if_neg hlong]
    rw [hkey] at hgo
    refine wS fun K hK => ?_
    simp only [↓DN,UP,DF,Qa,Qb,Qc,Qd,Qe,Qf,Qg,Qh,reduceCtorEq,↓reduceIte,Na,Nb,Nc,Nk,Nf,Ng,Nh,Za,Zb,Zc,TT, decide_eq_false (show ¬ (64 : Int) < (key.length : Int) by omega)]
    refine hK _ _ ?_;clear hK K
    refine wC fun X Y hX hY => ?_
    simp only [↓DN,UP,DF,Qa,Qb,Qc,Qd,Qe,Qf,Qg,Qh,reduceCtorEq,↓reduceIte,Na,Nb,Nc,Nk,Nf,Ng,Nh,Za,Zb,Zc,TT, DB]
    refine hY ?_;clear hX hY X Y
    refine awp_skip ?_
    simp only [thenQ]
    refine hgo _ ?_ ?_
    · simp only [upd, initE, Nc, ↓reduceIte, List.getD_cons_succ, List.getD_cons_zero]
    · simp only [upd, initE, Nc, ↓reduceIte, List.getD_cons_succ, List.getD_cons_zero]

end Go.Proofs.YtoagkleecgngdaaGreatDoor


set_option autoImplicit false
namespace Go.Proofs.YtoagkleecgngdaaGreatDoor
open Go Go.AM Go.Proofs



variable {Γ : Nat → List AV}



def nothing : List UInt8 := [119, 104, 97, 116, 32, 100, 111, 32, 121, 97, 32, 119, 97, 110, 116, 32, 102, 111, 114, 32, 110, 111, 116, 104, 105, 110, 103, 63]
end Go.Proofs.YtoagkleecgngdaaGreatDoor


