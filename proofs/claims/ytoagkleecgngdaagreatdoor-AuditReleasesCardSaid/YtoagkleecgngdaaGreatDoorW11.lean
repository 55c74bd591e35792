/- Contracts of the program's functions, each walked once; the conditions stand in each theorem. -/
import Derived.Test.YtoagkleecgngdaaGreatDoorAMp6
import Derived.Test.YtoagkleecgngdaaGreatDoorW1
import Derived.Test.YtoagkleecgngdaaGreatDoorW10
import Derived.Test.YtoagkleecgngdaaGreatDoorAMp5
import Derived.Test.YtoagkleecgngdaaGreatDoorW7
import Derived.Test.YtoagkleecgngdaaGreatDoorW4
import Derived.Test.YtoagkleecgngdaaGreatDoorW3
set_option linter.unusedSimpArgs false
set_option linter.unusedVariables false
open Nat renaming reduceLT → Na, reduceLeDiff → Nb, reduceEqDiff → Nc, reduceAdd → Nk, reduceMul → Nf, reducePow → Ng, reduceSub → Nh
open Int renaming reduceLT → Za, reduceLE → Zb, reduceToNat → Zc
open Go.AM renaming ashift → Qa, aconv → Qb, aindexAddr → Qc, aindex → Qd, aslice → Qe, abuiltin → Qf, awp_reg_seq → wS, awp_reg_end → wE, awp_seq_k → wK, awp_cond_k → wC
open Go.AM.AV renaming cells → Qg, one → Qh
set_option autoImplicit false
namespace Go.Proofs.YtoagkleecgngdaaGreatDoor
open Go Go.AM Go.Proofs


variable {Γ : Nat → List AV}

set_option maxHeartbeats 1000000 in
theorem sCloneO_no (l : List UInt8) (s : AS) (h0 : l.length ≠ 0) (hl : l.length ≤ 2 ^ 45) : ACalls Tryz.prog Γ 151 [bytesV l .no] s (fun r s' => ∃ o cap, s.objs o = none ∧ r = .osl o 0 1 l.length cap ∧ s' = s.set o (l.map byteV)) := by
  refine acalls_body Tryz.func151 rfl Tryz.ntmps151 Tryz.results151 (by simp) ?_
  unfold bytesV
  refine wS fun K hK => ?_
  simp only [↓DN,UP,DF,Qa,Qb,Qc,Qd,Qe,Qf,Qg,Qh,reduceCtorEq,↓reduceIte,Na,Nb,Nc,Nk,Nf,Ng,Nh,Za,Zb,Zc,TT]
  refine hK _ _ ?_;clear hK K
  refine wK fun K hK => ?_
  refine wS fun K hK => ?_
  simp only [↓DN,UP,DF,Qa,Qb,Qc,Qd,Qe,Qf,Qg,Qh,reduceCtorEq,↓reduceIte,Na,Nb,Nc,Nk,Nf,Ng,Nh,Za,Zb,Zc,TT, Bool.false_eq_true, and_false]
  refine hK _ _ ?_;clear hK K
  refine wC fun X Y hX hY => ?_
  simp only [↓DN,UP,DF,Qa,Qb,Qc,Qd,Qe,Qf,Qg,Qh,reduceCtorEq,↓reduceIte,Na,Nb,Nc,Nk,Nf,Ng,Nh,Za,Zb,Zc,TT, DB]
  refine hY ?_;clear hX hY X Y
  refine awp_skip ?_
  refine hK _ _ ?_;clear hK K
  refine awp_reg_clone (x := .tmp 5) (y := .tmp 6) (T := 22) (xT := 22) (e := 5) (z := [.v (.int .u8 0)]) (d := 7) rfl rfl rfl (by decide) Tryz.underlying22 (by simp only [↓DN,UP,DF,Qa,Qb,Qc,Qd,Qe,Qf,Qg,Qh,reduceCtorEq,↓reduceIte,Na,Nb,Nc,Nk,Nf,Ng,Nh,Za,Zb,Zc,TT]; try rfl) (by simp only [↓DN,UP,DF,Qa,Qb,Qc,Qd,Qe,Qf,Qg,Qh,reduceCtorEq,↓reduceIte,Na,Nb,Nc,Nk,Nf,Ng,Nh,Za,Zb,Zc,TT]; try rfl) (by rw [T.c5]; decide) (by rw [T.c5]; rfl) ?_
  simp only [↓DN,UP,DF,Qa,Qb,Qc,Qd,Qe,Qf,Qg,Qh,reduceCtorEq,↓reduceIte,Na,Nb,Nc,Nk,Nf,Ng,Nh,Za,Zb,Zc,TT, asrc]
  refine ⟨_, _, rfl, h0, by omega, by omega, ?_⟩
  intro ob cap hob hcap
  refine awp_ret ?_
  simp only [retQ, AEnds, aresL, ares, List.toList_toArray, ↓upd_same]; try simp only [UP,DF,Nc,↓reduceIte,DT]
  refine ⟨_, _, AV.weak.refl _, AS.le.refl _, ob, cap, hob, rfl, ?_⟩
  try rfl
theorem sCloneO_calls (l : List UInt8) (s : AS) (h0 : l.length ≠ 0) (hl : l.length ≤ 2 ^ 45) : ACalls Tryz.prog Γ 151 [bytesV l .any] s (fun r s' => ∃ o cap, s.objs o = none ∧ r = .osl o 0 1 l.length cap ∧ s' = s.set o (l.map byteV)) :=
  ACalls.any (pre := []) (post := []) (fun e => absurd (by rw [e]; rfl) h0) (sCloneO_no l s h0 hl)

theorem fillG_over (F G : Nat → UInt8) (N i : Nat) (h : N ≤ i) : fillG F G N i = fillG F G N N := by
  unfold fillG
  apply List.map_congr_left
  intro n hn
  have := List.mem_range.1 hn
  rw [if_pos (by omega), if_pos this]
theorem eye4 (l : List UInt8) (h : l.length = 4) : (eyeNum 4 (l, 0)).1 = beNat l := by
  have e : List.take 4 l = l := List.take_of_length_le (by omega)
  simp [eyeNum, eyeNext, h, e]
theorem imul16b (i : Nat) (h : i < 2 ^ 40) : imul .i64 16 (i : Int) = ((16 * i : Nat) : Int) := by
  rw [imul_i64 (by omega)]
  omega
theorem set_tail (nonce tl ys : List UInt8) (hn : nonce.length = 16) (ht : tl.length = 4) (hy : ys.length = 4) : asetAll ((nonce.take 12 ++ tl).map byteV) 12 (ys.map byteV) = (nonce.take 12 ++ ys).map byteV := by
  have h1 : (nonce.take 12).length = 12 := by simp [hn]
  generalize nonce.take 12 = a at *
  rw [asetAll_at _ _ _ (by rw [List.length_map, List.length_map, List.length_append]; omega), List.map_append, List.map_append, List.take_append_of_le_length (by rw [List.length_map]; omega), List.take_of_length_le (by rw [List.length_map]; omega), List.drop_eq_nil_of_le (by rw [List.length_append, List.length_map, List.length_map, List.length_map]; omega), List.append_nil]

set_option maxHeartbeats 8000000 in
set_option maxRecDepth 100000 in
theorem mask_some_calls (key nonce text : List UInt8) (hk : key.length = 48) (hn : nonce.length = 16) (h0 : text.length ≠ 0) (ht : text.length ≤ 2 ^ 30) (s : AS) :
    ACalls Tryz.prog Γ 235 [bytesV key .any, bytesV nonce .any, bytesV text .any] s (fun r s' => r = bytesV (Aes.mask key nonce text) .any ∧ s' = s) := by
  refine gcalls_body Tryz.func235 rfl Tryz.ntmps235 Tryz.results235 (by simp) ?_
  have hk16 : (key.take 16).length = 16 := by simp [hk]
  have hk16l : (List.take 16 (key.map byteV)).length = 16 := by simp [hk]
  have hk16a : (List.take 16 (key.map byteV)).all AV.one = true := by rw [← List.map_take]; exact all_bytes _
  have hnl : (nonce.map byteV).length = 16 := by rw [List.length_map, hn]
  have hna := all_bytes nonce
  have hntk : List.take 16 (nonce.map byteV) = nonce.map byteV := List.take_of_length_le (by omega)
  have hfl := first_lt nonce hn
  unfold bytesV
  rw [hk, hn]
  refine gwp_seq_k ?_
  intro K1 hK1
  refine wE fun K hK => ?_
  simp only [↓DN,UP,DF,Qa,Qb,Qc,Qd,Qe,Qf,Qg,Qh,reduceCtorEq,↓reduceIte,Na,Nb,Nc,Nk,Nf,Ng,Nh,Za,Zb,Zc,TT]
  refine hK _ _ ?_;clear hK K
  simp only [thenQ]
  refine hK1 _ _ ?_;clear hK1 K1
  refine gwp_seq_k ?_
  intro K1 hK1
  refine wE fun K hK => ?_
  simp only [↓DN,UP,DF,Qa,Qb,Qc,Qd,Qe,Qf,Qg,Qh,reduceCtorEq,↓reduceIte,Na,Nb,Nc,Nk,Nf,Ng,Nh,Za,Zb,Zc,TT]
  intro o7 ho7 o8 ho8
  obtain ⟨h87, ho8'⟩ := AS.fresh_set ho8
  rw [z16]
  refine hK _ _ ?_;clear hK K
  simp only [thenQ]
  refine hK1 _ _ ?_;clear hK1 K1
  generalize hs0 : (s.set o7 (List.replicate 16 (bV 0))).set o8 (List.replicate 16 (bV 0)) = s0 at *
  have j7 : s0.objs o7 = some (List.replicate 16 (bV 0)) := by rw [← hs0, AS.set_objs_ne _ h87.symm, AS.set_objs_same]
  have j8 : s0.objs o8 = some (List.replicate 16 (bV 0)) := by rw [← hs0]; exact AS.set_objs_same _ _ _
  have hle : s.le s0 := by rw [← hs0]; exact AS.le_set (AS.le_set (AS.le.refl s) ho7 _) ho8' _
  clear hs0 ho8
  have hzl : (List.replicate 16 (bV 0)).length = 16 := by simp
  generalize hZ : List.replicate 16 (bV 0) = Z at *
  refine gwp_seq_k ?_
  intro K1 hK1
  refine wE fun K hK => ?_
  simp only [↓DN,UP,DF,Qa,Qb,Qc,Qd,Qe,Qf,Qg,Qh,reduceCtorEq,↓reduceIte,Na,Nb,Nc,Nk,Nf,Ng,Nh,Za,Zb,Zc,TT, j7, hzl, hk16l, hk16a, show (0 : Int) ≤ ((16 : Nat) : Int) from by decide, show ((16 : Nat) : Int) ≤ ((16 : Nat) : Int) from by decide, show ¬ (((16 : Nat) : Int) = 0) from by decide, show min 48 16 = 16 from rfl]
  rw [asetAll_whole Z ((key.take 16).map byteV) (by rw [hzl, List.length_map, hk16])]
  refine hK _ _ ?_;clear hK K
  simp only [thenQ]
  refine hK1 _ _ ?_;clear hK1 K1
  generalize hs1 : s0.set o7 ((key.take 16).map byteV) = s1 at *
  have q7 : s1.objs o7 = some ((key.take 16).map byteV) := by rw [← hs1]; exact AS.set_objs_same _ _ _
  have q8 : s1.objs o8 = some Z := by rw [← hs1, AS.set_objs_ne _ h87]; exact j8
  have hle1 : s.le s1 := by rw [← hs1]; exact AS.le_set hle ho7 _
  clear hs1 j7 j8 hle
  refine gwp_seq_k ?_
  intro K1 hK1
  refine wE fun K hK => ?_
  simp only [↓DN,UP,DF,Qa,Qb,Qc,Qd,Qe,Qf,Qg,Qh,reduceCtorEq,↓reduceIte,Na,Nb,Nc,Nk,Nf,Ng,Nh,Za,Zb,Zc,TT, q8, hzl, hnl, hna, hntk, show (0 : Int) ≤ ((16 : Nat) : Int) from by decide, show ((16 : Nat) : Int) ≤ ((16 : Nat) : Int) from by decide, show ¬ (((16 : Nat) : Int) = 0) from by decide, show min 48 16 = 16 from rfl, show min 16 16 = 16 from rfl]
  rw [asetAll_whole Z (nonce.map byteV) (by rw [hzl, hnl])]
  refine hK _ _ ?_;clear hK K
  simp only [thenQ]
  refine hK1 _ _ ?_;clear hK1 K1
  generalize hs2 : s1.set o8 (nonce.map byteV) = s2 at *
  have j7 : s2.objs o7 = some ((key.take 16).map byteV) := by rw [← hs2, AS.set_objs_ne _ h87.symm]; exact q7
  have j8 : s2.objs o8 = some (nonce.map byteV) := by rw [← hs2]; exact AS.set_objs_same _ _ _
  have hle2 : s.le s2 := by rw [← hs2]; exact AS.le_set hle1 ho8' _
  clear hs2 q7 q8 hle1
  have hd12 : (nonce.drop 12).length = 4 := by simp [hn]
  have hop := fun s => open_calls (Γ := Γ) (nonce.drop 12) s (by omega)
  unfold bytesV at hop
  rw [hd12] at hop
  refine gwp_seq_k ?_
  intro K1 hK1
  refine wE fun K hK => ?_
  simp only [↓DN,UP,DF,Qa,Qb,Qc,Qd,Qe,Qf,Qg,Qh,reduceCtorEq,↓reduceIte,Na,Nb,Nc,Nk,Nf,Ng,Nh,Za,Zb,Zc,TT, hntk, hn, show (0 : Int) ≤ 12 from by decide, show (12 : Int) ≤ ((16 : Nat) : Int) from by decide, show ((16 : Nat) : Int) ≤ ((16 : Nat) : Int) from by decide]
  refine acallk (hop _) ?_
  rintro r s3 ⟨p, rfl, hp⟩
  simp only [↓AXq_nil,↓AXq_cons,pval,DX,Nat.reduceBEq,↓DN,UP,DF,Qa,Qb,Qc,Qd,Qe,Qf,Qg,Qh,reduceCtorEq,↓reduceIte,Na,Nb,Nc,Nk,Nf,Ng,Nh,Za,Zb,Zc,TT]
  refine hK _ _ ?_;clear hK K
  simp only [thenQ]
  refine hK1 _ _ ?_;clear hK1 K1
  refine gwp_seq_k ?_
  intro K1 hK1
  refine wE fun K hK => ?_
  simp only [↓DN,UP,DF,Qa,Qb,Qc,Qd,Qe,Qf,Qg,Qh,reduceCtorEq,↓reduceIte,Na,Nb,Nc,Nk,Nf,Ng,Nh,Za,Zb,Zc,TT]
  refine acallk (eyeU32_calls s2 s3 p _ hp) ?_
  rintro r s4 ⟨rfl, hp2⟩
  rw [eye4 _ hd12, show beNat (nonce.drop 12) = Aes.first nonce from rfl]
  have hcv : iconv .u32 ((Aes.first nonce : Nat) : Int) = ((Aes.first nonce : Nat) : Int) := by
    rw [iconv_u rfl]
    simp only [IntKind.bits]
    rw [Nat.mod_eq_of_lt (by omega)]
  simp only [↓AXq_nil,↓AXq_cons,pval,DX,Nat.reduceBEq,↓DN,UP,DF,Qa,Qb,Qc,Qd,Qe,Qf,Qg,Qh,reduceCtorEq,↓reduceIte,Na,Nb,Nc,Nk,Nf,Ng,Nh,Za,Zb,Zc,TT, hcv]
  refine hK _ _ ?_;clear hK K
  have q7 := hp2.le.objs _ _ j7
  have q8 := hp2.le.objs _ _ j8
  have hle4 : s.le s4 := AS.le.trans hle2 hp2.le
  clear hp hp2 j7 j8 hle2 hop hcv
  simp only [thenQ]
  refine hK1 _ _ ?_;clear hK1 K1
  refine gwp_seq_k ?_
  intro K1 hK1
  refine wE fun K hK => ?_
  simp only [↓DN,UP,DF,Qa,Qb,Qc,Qd,Qe,Qf,Qg,Qh,reduceCtorEq,↓reduceIte,Na,Nb,Nc,Nk,Nf,Ng,Nh,Za,Zb,Zc,TT]
  refine acallk (sCloneO_calls text s4 h0 (by omega)) ?_
  rintro r s5 ⟨o11, cap, ho11, rfl, rfl⟩
  simp only [↓AXq_nil,↓AXq_cons,pval,DX,Nat.reduceBEq,↓DN,UP,DF,Qa,Qb,Qc,Qd,Qe,Qf,Qg,Qh,reduceCtorEq,↓reduceIte,Na,Nb,Nc,Nk,Nf,Ng,Nh,Za,Zb,Zc,TT]
  refine hK _ _ ?_;clear hK K
  simp only [thenQ]
  refine hK1 _ _ ?_;clear hK1 K1
  have n117 : o11 ≠ o7 := fun e => by rw [e, q7] at ho11; cases ho11
  have n118 : o11 ≠ o8 := fun e => by rw [e, q8] at ho11; cases ho11
  have hs11 : s.objs o11 = none := by
    cases h : s.objs o11 with
    | none => rfl
    | some cs => rw [hle4.objs _ _ h] at ho11; cases ho11
  have hfill : fillG (fun n => (Aes.mask key nonce text).getD n 0) (fun n => text.getD n 0) text.length 0 = text.map byteV := by rw [fillG_none, range_list rfl]
  rw [← hfill]
  generalize hs5 : s4.set o11 (fillG (fun n => (Aes.mask key nonce text).getD n 0) (fun n => text.getD n 0) text.length 0) = s5 at *
  have j7 : s5.objs o7 = some ((key.take 16).map byteV) := by rw [← hs5, AS.set_objs_ne _ n117.symm]; exact q7
  have j8 : s5.objs o8 = some ((nonce.take 12 ++ nonce.drop 12).map byteV) := by rw [← hs5, AS.set_objs_ne _ n118.symm, List.take_append_drop]; exact q8
  have j11 : s5.objs o11 = some (fillG (fun n => (Aes.mask key nonce text).getD n 0) (fun n => text.getD n 0) text.length 0) := by rw [← hs5]; exact AS.set_objs_same _ _ _
  have hle5 : s.le s5 := by rw [← hs5]; exact AS.le_set hle4 hs11 _
  clear hs5 q7 q8 hle4 ho11 hfill
  have c1 : iadd .i64 (text.length : Int) 16 = ((text.length + 16 : Nat) : Int) := i64_add text.length 16 (by omega)
  have c2 : isub .i64 ((text.length + 16 : Nat) : Int) 1 = ((text.length + 15 : Nat) : Int) := i64_sub (text.length + 16) 1 (by omega) (by omega)
  have c3 : iquo .i64 ((text.length + 15 : Nat) : Int) 16 = (((text.length + 15) / 16 : Nat) : Int) := by
    have : iquo .i64 ((text.length + 15 : Nat) : Int) ((16 : Nat) : Int) = (((text.length + 15) / 16 : Nat) : Int) := by
      rw [iquo]
      have e : Int.tdiv ((text.length + 15 : Nat) : Int) ((16 : Nat) : Int) = (((text.length + 15) / 16 : Nat) : Int) := (Int.ofNat_tdiv _ 16).symm
      rw [e, IntWalk.i64_in _ (by omega)]
    exact this
  have hcn : 16 * ((text.length + 15) / 16) ≥ text.length := by omega
  have hcn2 : 16 * ((text.length + 15) / 16) < text.length + 16 := by omega
  generalize (text.length + 15) / 16 = cnt at *
  refine gwp_seq_k ?_
  intro K1 hK1
  refine wS fun K hK => ?_
  simp only [↓DN,UP,DF,Qa,Qb,Qc,Qd,Qe,Qf,Qg,Qh,reduceCtorEq,↓reduceIte,Na,Nb,Nc,Nk,Nf,Ng,Nh,Za,Zb,Zc,TT, c1, c2, c3, sixteen_ne]
  refine hK _ _ ?_;clear hK K
  clear c1 c2 c3
  refine awp_block ?_
  refine awp_loop (fun E s6 => ∃ (j : Nat) (tl : List UInt8), j ≤ cnt ∧ tl.length = 4 ∧ E 7 = .ptr o7 0 ∧ E 8 = .ptr o8 0 ∧ E 10 = .v (.int .u32 (Aes.first nonce : Nat)) ∧ E 11 = .osl o11 0 1 text.length cap ∧ E 36 = nV cnt ∧ E 37 = nV j ∧ s6.objs o7 = some ((key.take 16).map byteV) ∧ s6.objs o8 = some ((nonce.take 12 ++ tl).map byteV) ∧ s6.objs o11 = some (fillG (fun n => (Aes.mask key nonce text).getD n 0) (fun n => text.getD n 0) text.length (16 * j)) ∧ s.le s6)
    (fun E _ => match E 37 with | .v (.int _ i) => cnt - i.toNat | _ => 0) ?_ ?_
  · exact ⟨0, nonce.drop 12, by omega, hd12, by simp only [upd, Nc, ↓reduceIte], by simp only [upd, Nc, ↓reduceIte], by simp only [upd, Nc, ↓reduceIte], by simp only [upd, Nc, ↓reduceIte], by simp only [upd, Nc, ↓reduceIte], by simp only [upd, ↓reduceIte]; rfl, j7, j8, j11, hle5⟩
  · clear j7 j8 j11 hle5
    rintro E1 s6 ⟨j, tl, hj, htl, e7, e8, e10, e11, e36, e37, j7, j8, j11, hle6⟩ -
    by_cases hj' : j < cnt
    · refine wS fun K hK => ?_
      simp only [↓DN,UP,DF,Qa,Qb,Qc,Qd,Qe,Qf,Qg,Qh,reduceCtorEq,↓reduceIte,Na,Nb,Nc,Nk,Nf,Ng,Nh,Za,Zb,Zc,TT, e36, e37, decide_eq_true (show (j : Int) < (cnt : Int) by omega)]
      refine hK _ _ ?_;clear hK K
      refine wK fun K2 hK2 => ?_
      refine wC fun X Y hX hY => ?_
      simp only [↓DN,UP,DF,Qa,Qb,Qc,Qd,Qe,Qf,Qg,Qh,reduceCtorEq,↓reduceIte,Na,Nb,Nc,Nk,Nf,Ng,Nh,Za,Zb,Zc,TT, DB]
      refine hX ?_;clear hX hY X Y
      refine awp_skip ?_
      refine hK2 _ _ ?_;clear hK2 K2
      refine wK fun K3 hK3 => ?_
      refine awp_block ?_
      refine wS fun K hK => ?_
      simp only [↓DN,UP,DF,Qa,Qb,Qc,Qd,Qe,Qf,Qg,Qh,reduceCtorEq,↓reduceIte,Na,Nb,Nc,Nk,Nf,Ng,Nh,Za,Zb,Zc,TT, e37]
      refine hK _ _ ?_;clear hK K
      have w1 : iconv .u32 ((j : Nat) : Int) = ((j : Nat) : Int) := by
        rw [iconv_u rfl]
        simp only [IntKind.bits]
        rw [Nat.mod_eq_of_lt (by omega)]
      have w2 := wadd (Aes.first nonce) j
      rw [show Sha.add32 (Aes.first nonce) j = (Aes.first nonce + j) % 4294967296 from rfl] at w2
      refine wS fun K hK => ?_
      simp only [↓DN,UP,DF,Qa,Qb,Qc,Qd,Qe,Qf,Qg,Qh,reduceCtorEq,↓reduceIte,Na,Nb,Nc,Nk,Nf,Ng,Nh,Za,Zb,Zc,TT, e10, w1, w2]
      refine hK _ _ ?_;clear hK K
      have hctr : (nonce.take 12 ++ be 4 ((Aes.first nonce + j) % 4294967296)) = Aes.ctr nonce j := rfl
      have hbe : (be 4 ((Aes.first nonce + j) % 4294967296)).map byteV = [bV (UInt8.ofNat ((Aes.first nonce + j) % 4294967296 / 16777216)), bV (UInt8.ofNat ((Aes.first nonce + j) % 4294967296 / 65536)), bV (UInt8.ofNat ((Aes.first nonce + j) % 4294967296 / 256)), bV (UInt8.ofNat ((Aes.first nonce + j) % 4294967296))] := by simp [be, byteV]
      have hset := set_tail nonce tl (be 4 ((Aes.first nonce + j) % 4294967296)) hn htl (by simp)
      rw [hctr, hbe] at hset
      have hol : ((nonce.take 12 ++ tl).map byteV).length = 16 := by simp [hn, htl]
      have s24 := wshr ((Aes.first nonce + j) % 4294967296) 24 (by decide)
      have s16 := wshr ((Aes.first nonce + j) % 4294967296) 16 (by decide)
      have s8' := wshr ((Aes.first nonce + j) % 4294967296) 8 (by decide)
      generalize (Aes.first nonce + j) % 4294967296 = w at *
      generalize hO : (nonce.take 12 ++ tl).map byteV = O at *
      refine wS fun K hK => ?_
      simp only [↓DN,UP,DF,Qa,Qb,Qc,Qd,Qe,Qf,Qg,Qh,reduceCtorEq,↓reduceIte,Na,Nb,Nc,Nk,Nf,Ng,Nh,Za,Zb,Zc,TT, e8, j8, s24, s16, s8', show ishr .u32 (w : Int) 24 = ((w / 2 ^ 24 : Nat) : Int) from s24, show ishr .u32 (w : Int) 16 = ((w / 2 ^ 16 : Nat) : Int) from s16, show ishr .u32 (w : Int) 8 = ((w / 2 ^ 8 : Nat) : Int) from s8', b_conv, rep4n, hset, hol, show (12 : Int) ≤ ((16 : Nat) : Int) from by decide, show ((16 : Nat) : Int) ≤ ((16 : Nat) : Int) from by decide, show ¬ (((16 : Nat) : Int) = 12) from by decide, show min 4 4 = 4 from rfl]
      first
        | refine hK _ _ ?_
        | refine ⟨by omega, hK _ _ ?_⟩
      clear hK K
      generalize hs7 : s6.set o8 ((Aes.ctr nonce j).map byteV) = s7 at *
      have q7 : s7.objs o7 = some ((key.take 16).map byteV) := by rw [← hs7, AS.set_objs_ne _ h87.symm]; exact j7
      have q8 : s7.objs o8 = some ((Aes.ctr nonce j).map byteV) := by rw [← hs7]; exact AS.set_objs_same _ _ _
      have q11 : s7.objs o11 = some (fillG (fun n => (Aes.mask key nonce text).getD n 0) (fun n => text.getD n 0) text.length (16 * j)) := by rw [← hs7, AS.set_objs_ne _ n118]; exact j11
      have hle7 : s.le s7 := by rw [← hs7]; exact AS.le_set hle6 ho8' _
      clear hs7 j7 j8 j11 hle6 hset hbe hol
      have hcl := ctr_len nonce hn j
      have hbk := fun s => aesBlock_calls (Γ := Γ) (key.take 16) (Aes.ctr nonce j) hk16 hcl s
      have hbl := Aes.block_len (key.take 16) (Aes.ctr nonce j)
      have hKl : ((key.take 16).map byteV).length = 16 := by rw [List.length_map, hk16]
      have hKt : List.take 16 ((key.take 16).map byteV) = (key.take 16).map byteV := List.take_of_length_le (by omega)
      have hCl : ((Aes.ctr nonce j).map byteV).length = 16 := by rw [List.length_map, hcl]
      have hCt : List.take 16 ((Aes.ctr nonce j).map byteV) = (Aes.ctr nonce j).map byteV := List.take_of_length_le (by omega)
      have hBa := all_bytes (Aes.block (key.take 16) (Aes.ctr nonce j))
      have hBl2 : ((Aes.block (key.take 16) (Aes.ctr nonce j)).map byteV).length = 16 := by rw [List.length_map, hbl]
      have hBt : List.take 16 ((Aes.block (key.take 16) (Aes.ctr nonce j)).map byteV) = (Aes.block (key.take 16) (Aes.ctr nonce j)).map byteV := List.take_of_length_le (by omega)
      have hmB : ∀ k, k < 16 → Aes.maskB key nonce (16 * j + k) = (Aes.block (key.take 16) (Aes.ctr nonce j)).getD k 0 := by
        intro k hk
        rw [Aes.maskB, show (16 * j + k) / 16 = j by omega, show (16 * j + k) % 16 = k by omega]
      have htl2 : (be 4 w).length = 4 := by simp
      rw [← hctr] at q8
      generalize hBK : Aes.block (key.take 16) (Aes.ctr nonce j) = bk at *
      rw [← hctr] at hCl hCt hbk
      generalize hKK : (key.take 16).map byteV = KK at *
      generalize hCC : (nonce.take 12 ++ be 4 w).map byteV = CC at *
      refine wS fun K hK => ?_
      simp only [↓DN,UP,DF,Qa,Qb,Qc,Qd,Qe,Qf,Qg,Qh,reduceCtorEq,↓reduceIte,Na,Nb,Nc,Nk,Nf,Ng,Nh,Za,Zb,Zc,TT, e7, e8, q7, q8, hKl, hKt, hCl, hCt, Nat.le_refl]
      refine acallk (hbk _) ?_
      rintro r s8 ⟨rfl, rfl⟩
      simp only [↓AXq_nil,↓AXq_cons,pval,DX,Nat.reduceBEq,↓DN,UP,DF,Qa,Qb,Qc,Qd,Qe,Qf,Qg,Qh,reduceCtorEq,↓reduceIte,Na,Nb,Nc,Nk,Nf,Ng,Nh,Za,Zb,Zc,TT, hBl2, hBa, Nat.le_refl]
      intro o14 ho14
      rw [z16, asetAll_whole (List.replicate 16 (bV 0)) (bk.map byteV) (by rw [hBl2]; simp)]
      refine hK _ _ ?_;clear hK K
      have n147 : o14 ≠ o7 := fun e => by rw [e, q7] at ho14; cases ho14
      have n148 : o14 ≠ o8 := fun e => by rw [e, q8] at ho14; cases ho14
      have n1411 : o14 ≠ o11 := fun e => by rw [e, q11] at ho14; cases ho14
      have hs14 : s.objs o14 = none := by
        cases h : s.objs o14 with
        | none => rfl
        | some cs => rw [hle7.objs _ _ h] at ho14; cases ho14
      generalize hs9 : s8.set o14 (bk.map byteV) = s9 at *
      have j7 : s9.objs o7 = some KK := by rw [← hs9, AS.set_objs_ne _ n147.symm]; exact q7
      have j8 : s9.objs o8 = some CC := by rw [← hs9, AS.set_objs_ne _ n148.symm]; exact q8
      have j11 : s9.objs o11 = some (fillG (fun n => (Aes.mask key nonce text).getD n 0) (fun n => text.getD n 0) text.length (16 * j)) := by rw [← hs9, AS.set_objs_ne _ n1411.symm]; exact q11
      have j14 : s9.objs o14 = some (bk.map byteV) := by rw [← hs9]; exact AS.set_objs_same _ _ _
      have hle9 : s.le s9 := by rw [← hs9]; exact AS.le_set hle7 hs14 _
      clear hs9 q7 q8 q11 hle7 ho14 hbk hBa
      refine wS fun K hK => ?_
      simp only [↓DN,UP,DF,Qa,Qb,Qc,Qd,Qe,Qf,Qg,Qh,reduceCtorEq,↓reduceIte,Na,Nb,Nc,Nk,Nf,Ng,Nh,Za,Zb,Zc,TT, j14, hBl2, hBt, Nat.le_refl]
      refine hK _ _ ?_;clear hK K
      refine awp_block ?_
      refine awp_loop (fun E s10 => ∃ k : Nat, k ≤ 16 ∧ E 7 = .ptr o7 0 ∧ E 8 = .ptr o8 0 ∧ E 10 = .v (.int .u32 (Aes.first nonce : Nat)) ∧ E 11 = .osl o11 0 1 text.length cap ∧ E 12 = nV j ∧ E 36 = nV cnt ∧ E 37 = nV j ∧ E 61 = .agg (bk.map byteV) ∧ E 62 = nV k ∧ s10.objs o7 = some KK ∧ s10.objs o8 = some CC ∧ s10.objs o11 = some (fillG (fun n => (Aes.mask key nonce text).getD n 0) (fun n => text.getD n 0) text.length (16 * j + k)) ∧ s.le s10)
        (fun E _ => match E 62 with | .v (.int _ i) => 16 - i.toNat | _ => 0) ?_ ?_
      · exact ⟨0, by omega, by simp only [upd, e7, Nc, ↓reduceIte], by simp only [upd, e8, Nc, ↓reduceIte], by simp only [upd, e10, Nc, ↓reduceIte], by simp only [upd, e11, Nc, ↓reduceIte], by simp only [upd, Nc, ↓reduceIte], by simp only [upd, e36, Nc, ↓reduceIte], by simp only [upd, e37, Nc, ↓reduceIte], by simp only [upd, Nc, ↓reduceIte], by simp only [upd, ↓reduceIte]; rfl, j7, j8, j11, hle9⟩
      · clear j7 j8 j11 j14 hle9
        rintro E2 s10 ⟨k, hk', g7, g8, g10, g11, g12, g36, g37, g61, g62, j7, j8, j11, hle9⟩ -
        by_cases hk4 : k < 16
        · refine wS fun K hK => ?_
          simp only [↓DN,UP,DF,Qa,Qb,Qc,Qd,Qe,Qf,Qg,Qh,reduceCtorEq,↓reduceIte,Na,Nb,Nc,Nk,Nf,Ng,Nh,Za,Zb,Zc,TT, g62, decide_eq_true (show (k : Int) < 16 by omega)]
          refine hK _ _ ?_;clear hK K
          refine wK fun K5 hK5 => ?_
          refine wC fun X Y hX hY => ?_
          simp only [↓DN,UP,DF,Qa,Qb,Qc,Qd,Qe,Qf,Qg,Qh,reduceCtorEq,↓reduceIte,Na,Nb,Nc,Nk,Nf,Ng,Nh,Za,Zb,Zc,TT, DB]
          refine hX ?_;clear hX hY X Y
          refine awp_skip ?_
          refine hK5 _ _ ?_;clear hK5 K5
          refine wK fun K6 hK6 => ?_
          refine awp_block ?_
          have hbi : (bk.map byteV)[k]? = some (byteV (bk.getD k 0)) := by simp [List.getElem?_eq_getElem (show k < bk.length by omega)]
          have hbd := bytes_drop (l := bk) k (by omega)
          have hmk := hmB k hk4
          have m1 : (0 : Int) ≤ (k : Int) := by omega
          have m2 : (k : Int) < ((16 : Nat) : Int) := by omega
          have a0 := imul16b j (by omega)
          have a1 := i64_add (16 * j) k (by omega)
          have hgo : ∀ (E3 : Env) (s11 : AS), E3 7 = .ptr o7 0 → E3 8 = .ptr o8 0 → E3 10 = .v (.int .u32 (Aes.first nonce : Nat)) → E3 11 = .osl o11 0 1 text.length cap → E3 12 = nV j → E3 36 = nV cnt → E3 37 = nV j → E3 61 = .agg (bk.map byteV) → E3 62 = nV k →
              s11.objs o7 = some KK → s11.objs o8 = some CC → s11.objs o11 = some (fillG (fun n => (Aes.mask key nonce text).getD n 0) (fun n => text.getD n 0) text.length (16 * j + k + 1)) → s.le s11 → K6 E3 s11 := by
            intro E3 s11 f7 f8 f10 f11 f12 f36 f37 f61 f62 t7 t8 t11 hle11
            refine hK6 _ _ ?_;clear hK6 K6
            refine wE fun K hK => ?_
            simp only [↓DN,UP,DF,Qa,Qb,Qc,Qd,Qe,Qf,Qg,Qh,reduceCtorEq,↓reduceIte,Na,Nb,Nc,Nk,Nf,Ng,Nh,Za,Zb,Zc,TT, f62, w_succ k (by omega)]
            refine hK _ _ ?_;clear hK K
            refine ⟨⟨k + 1, by omega, by simp only [upd, f7, Nc, ↓reduceIte], by simp only [upd, f8, Nc, ↓reduceIte], by simp only [upd, f10, Nc, ↓reduceIte], by simp only [upd, f11, Nc, ↓reduceIte], by simp only [upd, f12, Nc, ↓reduceIte], by simp only [upd, f36, Nc, ↓reduceIte], by simp only [upd, f37, Nc, ↓reduceIte], by simp only [upd, f61, Nc, ↓reduceIte], by simp only [upd, ↓reduceIte], t7, t8, by rw [show 16 * j + (k + 1) = 16 * j + k + 1 from rfl]; exact t11, hle11⟩, ?_⟩
            simp only [g62, upd, ↓reduceIte]
            omega
          clear hK6
          refine wS fun K hK => ?_
          simp only [↓DN,UP,DF,Qa,Qb,Qc,Qd,Qe,Qf,Qg,Qh,reduceCtorEq,↓reduceIte,Na,Nb,Nc,Nk,Nf,Ng,Nh,Za,Zb,Zc,TT, g61, g62, m1, m2, hbi, hbd, hBl2, byteV]
          refine hK _ _ ?_;clear hK K
          refine wS fun K hK => ?_
          simp only [↓DN,UP,DF,Qa,Qb,Qc,Qd,Qe,Qf,Qg,Qh,reduceCtorEq,↓reduceIte,Na,Nb,Nc,Nk,Nf,Ng,Nh,Za,Zb,Zc,TT, g12, a0, a1]
          refine hK _ _ ?_;clear hK K
          by_cases hin : 16 * j + k < text.length
          · have hset := fillG_set (fun n => (Aes.mask key nonce text).getD n 0) (fun n => text.getD n 0) text.length (16 * j + k) _ rfl
            have hdr := fillG_drop (fun n => (Aes.mask key nonce text).getD n 0) (fun n => text.getD n 0) text.length (16 * j + k) (16 * j + k) hin
            rw [if_neg (Nat.lt_irrefl _)] at hdr
            rw [Aes.mask_get key nonce text (16 * j + k) hin, hmk] at hset
            have hlen := fillG_len (fun n => (Aes.mask key nonce text).getD n 0) (fun n => text.getD n 0) text.length (16 * j + k)
            generalize hR' : fillG (fun n => (Aes.mask key nonce text).getD n 0) (fun n => text.getD n 0) text.length (16 * j + k + 1) = R' at *
            generalize fillG (fun n => (Aes.mask key nonce text).getD n 0) (fun n => text.getD n 0) text.length (16 * j + k) = R at *
            generalize text.getD (16 * j + k) 0 = x at *
            generalize bk.getD k 0 = y at *
            have m3 : (0 : Int) ≤ ((16 * j + k : Nat) : Int) := by omega
            have m4 : ((16 * j + k : Nat) : Int) < (text.length : Int) := by omega
            have m5 : 16 * j + k + 1 ≤ text.length := by omega
            refine wS fun K hK => ?_
            simp only [↓DN,UP,DF,Qa,Qb,Qc,Qd,Qe,Qf,Qg,Qh,reduceCtorEq,↓reduceIte,Na,Nb,Nc,Nk,Nf,Ng,Nh,Za,Zb,Zc,TT, g11, decide_eq_true m4]
            refine hK _ _ ?_;clear hK K
            refine wC fun X Y hX hY => ?_
            simp only [↓DN,UP,DF,Qa,Qb,Qc,Qd,Qe,Qf,Qg,Qh,reduceCtorEq,↓reduceIte,Na,Nb,Nc,Nk,Nf,Ng,Nh,Za,Zb,Zc,TT, DB]
            refine hX ?_;clear hX hY X Y
            refine wE fun K hK => ?_
            simp only [↓DN,UP,DF,Qa,Qb,Qc,Qd,Qe,Qf,Qg,Qh,reduceCtorEq,↓reduceIte,Na,Nb,Nc,Nk,Nf,Ng,Nh,Za,Zb,Zc,TT, g11, m3, m4, m5, hin, j11, hdr, byteV, b_xor, hset, hlen]
            refine hK _ _ ?_;clear hK K
            simp only [blockQ, thenQ, if_true, if_false]
            exact hgo _ _ (by simp only [upd, g7, Nc, ↓reduceIte]) (by simp only [upd, g8, Nc, ↓reduceIte]) (by simp only [upd, g10, Nc, ↓reduceIte]) (by simp only [upd, g11, Nc, ↓reduceIte]) (by simp only [upd, g12, Nc, ↓reduceIte]) (by simp only [upd, g36, Nc, ↓reduceIte]) (by simp only [upd, g37, Nc, ↓reduceIte]) (by simp only [upd, g61, Nc, ↓reduceIte]) (by simp only [upd, g62, Nc, ↓reduceIte]) (by rw [AS.set_objs_ne _ n117.symm]; exact j7) (by rw [AS.set_objs_ne _ n118.symm]; exact j8) (AS.set_objs_same _ _ _) (AS.le_set hle9 hs11 _)
          · refine wS fun K hK => ?_
            simp only [↓DN,UP,DF,Qa,Qb,Qc,Qd,Qe,Qf,Qg,Qh,reduceCtorEq,↓reduceIte,Na,Nb,Nc,Nk,Nf,Ng,Nh,Za,Zb,Zc,TT, g11, decide_eq_false (show ¬ ((16 * j + k : Nat) : Int) < (text.length : Int) by omega)]
            refine hK _ _ ?_;clear hK K
            refine wC fun X Y hX hY => ?_
            simp only [↓DN,UP,DF,Qa,Qb,Qc,Qd,Qe,Qf,Qg,Qh,reduceCtorEq,↓reduceIte,Na,Nb,Nc,Nk,Nf,Ng,Nh,Za,Zb,Zc,TT, DB]
            refine hY ?_;clear hX hY X Y
            refine awp_skip ?_
            simp only [blockQ, thenQ, if_true, if_false]
            exact hgo _ _ (by simp only [upd, g7, Nc, ↓reduceIte]) (by simp only [upd, g8, Nc, ↓reduceIte]) (by simp only [upd, g10, Nc, ↓reduceIte]) (by simp only [upd, g11, Nc, ↓reduceIte]) (by simp only [upd, g12, Nc, ↓reduceIte]) (by simp only [upd, g36, Nc, ↓reduceIte]) (by simp only [upd, g37, Nc, ↓reduceIte]) (by simp only [upd, g61, Nc, ↓reduceIte]) (by simp only [upd, g62, Nc, ↓reduceIte]) j7 j8 (by rw [fillG_over _ _ _ _ (by omega)]; rw [fillG_over _ _ _ _ (by omega)] at j11; exact j11) hle9
        · obtain rfl : k = 16 := by omega
          refine wS fun K hK => ?_
          simp only [↓DN,UP,DF,Qa,Qb,Qc,Qd,Qe,Qf,Qg,Qh,reduceCtorEq,↓reduceIte,Na,Nb,Nc,Nk,Nf,Ng,Nh,Za,Zb,Zc,TT, g62, decide_eq_false (show ¬ ((16 : Nat) : Int) < 16 by decide)]
          refine hK _ _ ?_;clear hK K
          refine wK fun K5 hK5 => ?_
          refine wC fun X Y hX hY => ?_
          simp only [↓DN,UP,DF,Qa,Qb,Qc,Qd,Qe,Qf,Qg,Qh,reduceCtorEq,↓reduceIte,Na,Nb,Nc,Nk,Nf,Ng,Nh,Za,Zb,Zc,TT, DB]
          refine hY ?_;clear hX hY X Y
          refine awp_exit ?_
          simp only [thenQ, blockQ, if_true, if_false]
          clear hK5 K5
          refine hK3 _ _ ?_;clear hK3 K3
          rw [← hCC] at j8
          refine wE fun K hK => ?_
          simp only [↓DN,UP,DF,Qa,Qb,Qc,Qd,Qe,Qf,Qg,Qh,reduceCtorEq,↓reduceIte,Na,Nb,Nc,Nk,Nf,Ng,Nh,Za,Zb,Zc,TT, g37, w_succ j (by omega)]
          refine hK _ _ ?_;clear hK K
          refine ⟨⟨j + 1, be 4 w, by omega, htl2, by simp only [upd, g7, Nc, ↓reduceIte], by simp only [upd, g8, Nc, ↓reduceIte], by simp only [upd, g10, Nc, ↓reduceIte], by simp only [upd, g11, Nc, ↓reduceIte], by simp only [upd, g36, Nc, ↓reduceIte], by simp only [upd, ↓reduceIte], j7, j8, by rw [show 16 * (j + 1) = 16 * j + 16 from rfl]; exact j11, hle9⟩, ?_⟩
          simp only [e37, upd, ↓reduceIte]
          omega
    · obtain rfl : j = cnt := by omega
      refine wS fun K hK => ?_
      simp only [↓DN,UP,DF,Qa,Qb,Qc,Qd,Qe,Qf,Qg,Qh,reduceCtorEq,↓reduceIte,Na,Nb,Nc,Nk,Nf,Ng,Nh,Za,Zb,Zc,TT, e36, e37, decide_eq_false (show ¬ (j : Int) < (j : Int) by omega)]
      refine hK _ _ ?_;clear hK K
      refine wK fun K2 hK2 => ?_
      refine wC fun X Y hX hY => ?_
      simp only [↓DN,UP,DF,Qa,Qb,Qc,Qd,Qe,Qf,Qg,Qh,reduceCtorEq,↓reduceIte,Na,Nb,Nc,Nk,Nf,Ng,Nh,Za,Zb,Zc,TT, DB]
      refine hY ?_;clear hX hY X Y
      refine awp_exit ?_
      simp only [thenQ, blockQ, if_true]
      clear hK2 K2
      refine hK1 _ _ ?_;clear hK1 K1
      have hml := Aes.mask_len key nonce text
      rw [fillG_over _ _ _ _ (by omega), fillG_full, range_list hml] at j11
      have hl5 : ((Aes.mask key nonce text).map byteV).length = text.length := by rw [List.length_map, hml]
      refine gwp_ghost (Ghost.freeze (d := 11) (o := o11) (off := 0) (sz := 1) (n := text.length) (cap := cap) (by simp only [upd, Nc, ↓reduceIte]; exact e11) j11 (by omega)) (AWp.g ?_)
      have hle7 : s.le (s6.drop o11) := AS.le_drop hle6 hs11
      generalize s6.drop o11 = s7 at *
      rw [show (((Aes.mask key nonce text).map byteV).drop 0).take (text.length * 1) = (Aes.mask key nonce text).map byteV from by rw [List.drop_zero, List.take_of_length_le (by omega)], ← hml]
      generalize Aes.mask key nonce text = M at *
      refine wS fun K hK => ?_
      simp only [↓DN,UP,DF,Qa,Qb,Qc,Qd,Qe,Qf,Qg,Qh,reduceCtorEq,↓reduceIte,Na,Nb,Nc,Nk,Nf,Ng,Nh,Za,Zb,Zc,TT]
      refine hK _ _ ?_;clear hK K
      refine awp_ret ?_
      simp only [retQ, AEnds, aresL, ares, List.toList_toArray, ↓upd_same]; try simp only [UP,DF,Nc,↓reduceIte,DT]
      exact ⟨_, s, AV.weak_any, hle7, rfl, rfl⟩

end Go.Proofs.YtoagkleecgngdaaGreatDoor


set_option autoImplicit false
namespace Go.Proofs.YtoagkleecgngdaaGreatDoor
open Go Go.AM Go.Proofs


variable {Γ : Nat → List AV}

set_option maxHeartbeats 8000000 in
set_option maxRecDepth 100000 in
theorem mask_none_calls (key nonce : List UInt8) (hk : key.length = 48) (hn : nonce.length = 16) (s : AS) :
    ACalls Tryz.prog Γ 235 [bytesV key .any, bytesV nonce .any, bytesV [] .any] s (fun r s' => r = bytesV [] .any ∧ s' = s) := by
  refine acalls_body Tryz.func235 rfl Tryz.ntmps235 Tryz.results235 (by simp) ?_
  have hk16 : (key.take 16).length = 16 := by simp [hk]
  have hk16l : (List.take 16 (key.map byteV)).length = 16 := by simp [hk]
  have hk16a : (List.take 16 (key.map byteV)).all AV.one = true := by rw [← List.map_take]; exact all_bytes _
  have hnl : (nonce.map byteV).length = 16 := by rw [List.length_map, hn]
  have hna := all_bytes nonce
  have hntk : List.take 16 (nonce.map byteV) = nonce.map byteV := List.take_of_length_le (by omega)
  have hfl := first_lt nonce hn
  have hclone := fun s => cloneB_calls (Γ := Γ) [] s (by simp)
  unfold bytesV at hclone ⊢
  rw [hk, hn]
  refine wS fun K hK => ?_
  simp only [↓DN,UP,DF,Qa,Qb,Qc,Qd,Qe,Qf,Qg,Qh,reduceCtorEq,↓reduceIte,Na,Nb,Nc,Nk,Nf,Ng,Nh,Za,Zb,Zc,TT]
  refine hK _ _ ?_;clear hK K
  refine wS fun K hK => ?_
  simp only [↓DN,UP,DF,Qa,Qb,Qc,Qd,Qe,Qf,Qg,Qh,reduceCtorEq,↓reduceIte,Na,Nb,Nc,Nk,Nf,Ng,Nh,Za,Zb,Zc,TT]
  intro o7 ho7 o8 ho8
  obtain ⟨h87, ho8'⟩ := AS.fresh_set ho8
  rw [z16]
  refine hK _ _ ?_;clear hK K
  generalize hs0 : (s.set o7 (List.replicate 16 (bV 0))).set o8 (List.replicate 16 (bV 0)) = s0 at *
  have j7 : s0.objs o7 = some (List.replicate 16 (bV 0)) := by rw [← hs0, AS.set_objs_ne _ h87.symm, AS.set_objs_same]
  have j8 : s0.objs o8 = some (List.replicate 16 (bV 0)) := by rw [← hs0]; exact AS.set_objs_same _ _ _
  have hle : s.le s0 := by rw [← hs0]; exact AS.le_set (AS.le_set (AS.le.refl s) ho7 _) ho8' _
  clear hs0 ho8
  have hzl : (List.replicate 16 (bV 0)).length = 16 := by simp
  generalize hZ : List.replicate 16 (bV 0) = Z at *
  refine wS fun K hK => ?_
  simp only [↓DN,UP,DF,Qa,Qb,Qc,Qd,Qe,Qf,Qg,Qh,reduceCtorEq,↓reduceIte,Na,Nb,Nc,Nk,Nf,Ng,Nh,Za,Zb,Zc,TT, j7, hzl, hk16l, hk16a, show (0 : Int) ≤ ((16 : Nat) : Int) from by decide, show ((16 : Nat) : Int) ≤ ((16 : Nat) : Int) from by decide, show ¬ (((16 : Nat) : Int) = 0) from by decide, show min 48 16 = 16 from rfl]
  refine hK _ _ ?_;clear hK K
  generalize hs1 : s0.set o7 (asetAll Z 0 (List.map byteV (List.take 16 key))) = s1 at *
  have q8 : s1.objs o8 = some Z := by rw [← hs1, AS.set_objs_ne _ h87]; exact j8
  have hle1 : s.le s1 := by rw [← hs1]; exact AS.le_set hle ho7 _
  clear hs1 j7 j8 hle
  refine wS fun K hK => ?_
  simp only [↓DN,UP,DF,Qa,Qb,Qc,Qd,Qe,Qf,Qg,Qh,reduceCtorEq,↓reduceIte,Na,Nb,Nc,Nk,Nf,Ng,Nh,Za,Zb,Zc,TT, q8, hzl, hnl, hna, hntk, show (0 : Int) ≤ ((16 : Nat) : Int) from by decide, show ((16 : Nat) : Int) ≤ ((16 : Nat) : Int) from by decide, show ¬ (((16 : Nat) : Int) = 0) from by decide, show min 16 16 = 16 from rfl]
  refine hK _ _ ?_;clear hK K
  generalize hs2 : s1.set o8 (asetAll Z 0 (nonce.map byteV)) = s2 at *
  have hle2 : s.le s2 := by rw [← hs2]; exact AS.le_set hle1 ho8' _
  clear hs2 q8 hle1
  have hd12 : (nonce.drop 12).length = 4 := by simp [hn]
  have hop := fun s => open_calls (Γ := Γ) (nonce.drop 12) s (by omega)
  unfold bytesV at hop
  rw [hd12] at hop
  refine wS fun K hK => ?_
  simp only [↓DN,UP,DF,Qa,Qb,Qc,Qd,Qe,Qf,Qg,Qh,reduceCtorEq,↓reduceIte,Na,Nb,Nc,Nk,Nf,Ng,Nh,Za,Zb,Zc,TT, hntk, hn, show (0 : Int) ≤ 12 from by decide, show (12 : Int) ≤ ((16 : Nat) : Int) from by decide, show ((16 : Nat) : Int) ≤ ((16 : Nat) : Int) from by decide]
  refine acallk (hop _) ?_
  rintro r s3 ⟨p, rfl, hp⟩
  simp only [↓AXq_nil,↓AXq_cons,pval,DX,Nat.reduceBEq,↓DN,UP,DF,Qa,Qb,Qc,Qd,Qe,Qf,Qg,Qh,reduceCtorEq,↓reduceIte,Na,Nb,Nc,Nk,Nf,Ng,Nh,Za,Zb,Zc,TT]
  refine hK _ _ ?_;clear hK K
  refine wS fun K hK => ?_
  simp only [↓DN,UP,DF,Qa,Qb,Qc,Qd,Qe,Qf,Qg,Qh,reduceCtorEq,↓reduceIte,Na,Nb,Nc,Nk,Nf,Ng,Nh,Za,Zb,Zc,TT]
  refine acallk (eyeU32_calls s2 s3 p _ hp) ?_
  rintro r s4 ⟨rfl, hp2⟩
  simp only [↓AXq_nil,↓AXq_cons,pval,DX,Nat.reduceBEq,↓DN,UP,DF,Qa,Qb,Qc,Qd,Qe,Qf,Qg,Qh,reduceCtorEq,↓reduceIte,Na,Nb,Nc,Nk,Nf,Ng,Nh,Za,Zb,Zc,TT]
  refine hK _ _ ?_;clear hK K
  have hle4 : s.le s4 := AS.le.trans hle2 hp2.le
  clear hp hp2 hle2 hop
  refine wS fun K hK => ?_
  simp only [↓DN,UP,DF,Qa,Qb,Qc,Qd,Qe,Qf,Qg,Qh,reduceCtorEq,↓reduceIte,Na,Nb,Nc,Nk,Nf,Ng,Nh,Za,Zb,Zc,TT]
  refine acallk (hclone _) ?_
  rintro r s5 ⟨rfl, rfl⟩
  simp only [↓AXq_nil,↓AXq_cons,pval,DX,Nat.reduceBEq,↓DN,UP,DF,Qa,Qb,Qc,Qd,Qe,Qf,Qg,Qh,reduceCtorEq,↓reduceIte,Na,Nb,Nc,Nk,Nf,Ng,Nh,Za,Zb,Zc,TT]
  refine hK _ _ ?_;clear hK K
  have c1 : iadd .i64 ((0 : Nat) : Int) 16 = ((16 : Nat) : Int) := i64_add 0 16 (by omega)
  have c2 : isub .i64 ((16 : Nat) : Int) 1 = ((15 : Nat) : Int) := i64_sub 16 1 (by omega) (by omega)
  have c3 : iquo .i64 ((15 : Nat) : Int) 16 = ((0 : Nat) : Int) := by decide
  refine wK fun K hK => ?_
  refine wS fun K hK => ?_
  simp only [↓DN,UP,DF,Qa,Qb,Qc,Qd,Qe,Qf,Qg,Qh,reduceCtorEq,↓reduceIte,Na,Nb,Nc,Nk,Nf,Ng,Nh,Za,Zb,Zc,TT, List.length_nil, c1, c2, c3, sixteen_ne]
  refine hK _ _ ?_;clear hK K
  clear c1 c2 c3
  refine awp_block ?_
  refine awp_loop (fun E s6 => E 11 = .sl 1 0 [] .any ∧ E 36 = nV 0 ∧ E 37 = nV 0 ∧ s6 = s5)
    (fun E _ => 0) ?_ ?_
  · exact ⟨by simp only [upd, Nc, ↓reduceIte], by simp only [upd, Nc, ↓reduceIte], by simp only [upd, ↓reduceIte]; rfl, rfl⟩
  · rintro E1 s6 ⟨e11, e36, e37, rfl⟩ -
    refine wS fun K hK => ?_
    simp only [↓DN,UP,DF,Qa,Qb,Qc,Qd,Qe,Qf,Qg,Qh,reduceCtorEq,↓reduceIte,Na,Nb,Nc,Nk,Nf,Ng,Nh,Za,Zb,Zc,TT, e36, e37, decide_eq_false (show ¬ ((0 : Nat) : Int) < ((0 : Nat) : Int) by decide)]
    refine hK _ _ ?_;clear hK K
    refine wK fun K2 hK2 => ?_
    refine wC fun X Y hX hY => ?_
    simp only [↓DN,UP,DF,Qa,Qb,Qc,Qd,Qe,Qf,Qg,Qh,reduceCtorEq,↓reduceIte,Na,Nb,Nc,Nk,Nf,Ng,Nh,Za,Zb,Zc,TT, DB]
    refine hY ?_;clear hX hY X Y
    refine awp_exit ?_
    simp only [thenQ, blockQ, if_true]
    clear hK2 K2
    refine hK _ _ ?_;clear hK K
    refine wS fun K hK => ?_
    simp only [↓DN,UP,DF,Qa,Qb,Qc,Qd,Qe,Qf,Qg,Qh,reduceCtorEq,↓reduceIte,Na,Nb,Nc,Nk,Nf,Ng,Nh,Za,Zb,Zc,TT, e11]
    refine hK _ _ ?_;clear hK K
    refine awp_ret ?_
    simp only [retQ, AEnds, aresL, ares, List.toList_toArray, ↓upd_same]; try simp only [UP,DF,Nc,↓reduceIte,DT]
    exact ⟨_, s, AV.weak.refl _, hle4, rfl, rfl⟩

theorem mask_calls (key nonce text : List UInt8) (hk : key.length = 48) (hn : nonce.length = 16) (ht : text.length ≤ 2 ^ 30) (s : AS) :
    ACalls Tryz.prog Γ 235 [bytesV key .any, bytesV nonce .any, bytesV text .any] s (fun r s' => r = bytesV (Aes.mask key nonce text) .any ∧ s' = s) := by
  by_cases h0 : text.length = 0
  · obtain rfl := List.eq_nil_of_length_eq_zero h0
    rw [show Aes.mask key nonce [] = [] from rfl]
    exact mask_none_calls key nonce hk hn s
  · exact mask_some_calls key nonce text hk hn h0 ht s

theorem int_beq_nat (n c : Nat) : (((n : Nat) : Int) == ((c : Nat) : Int)) = decide (n = c) := by
  by_cases h : n = c
  · subst h; simp
  · rw [decide_eq_false h]; simp; omega
set_option maxHeartbeats 1000000 in
theorem sfits_calls (key nonce : List UInt8) (s : AS) :
    ACalls Tryz.prog Γ 232 [bytesV key .any, bytesV nonce .any] s (fun r s' => r = .v (.bool (decide (key.length = 48 ∧ nonce.length = 16))) ∧ s' = s) := by
  refine acalls_body Tryz.func232 rfl Tryz.ntmps232 Tryz.results232 (by simp) ?_
  have e1 : ((key.length : Int) == 48) = decide (key.length = 48) := int_beq_nat key.length 48
  have e2 : ((nonce.length : Int) == 16) = decide (nonce.length = 16) := int_beq_nat nonce.length 16
  by_cases h1 : key.length = 48
  · rw [decide_eq_true h1] at e1
    by_cases h2 : nonce.length = 16
    · rw [decide_eq_true h2] at e2
      rw [decide_eq_true (⟨h1, h2⟩ : key.length = 48 ∧ nonce.length = 16)]
      refine wS fun K hK => ?_
      simp only [↓DN,UP,DF,Qa,Qb,Qc,Qd,Qe,Qf,Qg,Qh,reduceCtorEq,↓reduceIte,Na,Nb,Nc,Nk,Nf,Ng,Nh,Za,Zb,Zc,TT]
      refine hK _ _ ?_;clear hK K
      refine wS fun K hK => ?_
      simp only [↓DN,UP,DF,Qa,Qb,Qc,Qd,Qe,Qf,Qg,Qh,reduceCtorEq,↓reduceIte,Na,Nb,Nc,Nk,Nf,Ng,Nh,Za,Zb,Zc,TT, e1, e2]
      refine hK _ _ ?_;clear hK K
      refine awp_ret ?_
      simp only [retQ, AEnds, aresL, ares, List.toList_toArray, ↓upd_same]; try simp only [UP,DF,Nc,↓reduceIte,DT]
      exact ⟨_, _, AV.weak.refl _, AS.le.refl _, rfl, rfl⟩
    · rw [decide_eq_false h2] at e2
      rw [decide_eq_false (fun h : key.length = 48 ∧ nonce.length = 16 => h2 h.2)]
      refine wS fun K hK => ?_
      simp only [↓DN,UP,DF,Qa,Qb,Qc,Qd,Qe,Qf,Qg,Qh,reduceCtorEq,↓reduceIte,Na,Nb,Nc,Nk,Nf,Ng,Nh,Za,Zb,Zc,TT]
      refine hK _ _ ?_;clear hK K
      refine wS fun K hK => ?_
      simp only [↓DN,UP,DF,Qa,Qb,Qc,Qd,Qe,Qf,Qg,Qh,reduceCtorEq,↓reduceIte,Na,Nb,Nc,Nk,Nf,Ng,Nh,Za,Zb,Zc,TT, e1, e2]
      refine hK _ _ ?_;clear hK K
      refine awp_ret ?_
      simp only [retQ, AEnds, aresL, ares, List.toList_toArray, ↓upd_same]; try simp only [UP,DF,Nc,↓reduceIte,DT]
      exact ⟨_, _, AV.weak.refl _, AS.le.refl _, rfl, rfl⟩
  · rw [decide_eq_false h1] at e1
    rw [decide_eq_false (fun h : key.length = 48 ∧ nonce.length = 16 => h1 h.1)]
    refine wS fun K hK => ?_
    simp only [↓DN,UP,DF,Qa,Qb,Qc,Qd,Qe,Qf,Qg,Qh,reduceCtorEq,↓reduceIte,Na,Nb,Nc,Nk,Nf,Ng,Nh,Za,Zb,Zc,TT]
    refine hK _ _ ?_;clear hK K
    refine wS fun K hK => ?_
    simp only [↓DN,UP,DF,Qa,Qb,Qc,Qd,Qe,Qf,Qg,Qh,reduceCtorEq,↓reduceIte,Na,Nb,Nc,Nk,Nf,Ng,Nh,Za,Zb,Zc,TT, e1]
    refine hK _ _ ?_;clear hK K
    refine awp_ret ?_
    simp only [retQ, AEnds, aresL, ares, List.toList_toArray, ↓upd_same]; try simp only [UP,DF,Nc,↓reduceIte,DT]
    exact ⟨_, _, AV.weak.refl _, AS.le.refl _, rfl, rfl⟩

theorem partsB_quad (a b c d : List UInt8) : PartsB [a, b, c, d] = [bytesV a .any, bytesV b .any, bytesV c .any, bytesV d .any] := rfl

set_option maxHeartbeats 4000000 in
theorem stag_calls (hG0 : Γ 0 = stC Sha.H0) (hG : Γ 1 = Sha.K.map wV) (key nonce beside masked : List UInt8) (hk : key.length = 48) (hn : nonce.length = 16) (hb : beside.length ≤ 2 ^ 30) (hm : masked.length ≤ 2 ^ 30) (s : AS) :
    ACalls Tryz.prog Γ 234 [bytesV key .any, bytesV nonce .any, bytesV beside .any, bytesV masked .any] s (fun r s' => r = bytesV (Aes.tag key nonce beside masked) .any ∧ s' = s) := by
  refine acalls_body Tryz.func234 rfl Tryz.ntmps234 Tryz.results234 (by simp) ?_
  have hps : penSmall 4 (beside.length : Int) ([], false) = (be 4 beside.length, false) := by
    unfold penSmall
    rw [if_pos ⟨by omega, by omega⟩]
    simp [penNum]
  have hkd : (key.drop 16).length = 32 := by simp [hk]
  have htag := fun s => macTag_calls (Γ := Γ) hG0 hG (key.drop 16) [be 4 beside.length, beside, nonce, masked] .new (by omega) (by simp) (by simp [hn]; omega) s
  rw [show [be 4 beside.length, beside, nonce, masked].flatten = be 4 beside.length ++ (beside ++ (nonce ++ masked)) from by simp, partsB_quad] at htag
  have htl := Mac.tag_len (key.drop 16) (be 4 beside.length ++ (beside ++ (nonce ++ masked)))
  rw [tag_eq]
  have hbl : (be 4 beside.length).length = 4 := by simp
  generalize Mac.tag (key.drop 16) (be 4 beside.length ++ (beside ++ (nonce ++ masked))) = T0 at *
  have htk : List.take 48 key = key := List.take_of_length_le (by omega)
  refine wS fun K hK => ?_
  simp only [↓DN,UP,DF,Qa,Qb,Qc,Qd,Qe,Qf,Qg,Qh,reduceCtorEq,↓reduceIte,Na,Nb,Nc,Nk,Nf,Ng,Nh,Za,Zb,Zc,TT]
  refine hK _ _ ?_;clear hK K
  refine wS fun K hK => ?_
  simp only [↓DN,UP,DF,Qa,Qb,Qc,Qd,Qe,Qf,Qg,Qh,reduceCtorEq,↓reduceIte,Na,Nb,Nc,Nk,Nf,Ng,Nh,Za,Zb,Zc,TT]
  refine acallk (new_calls s) ?_
  rintro r s1 ⟨p, rfl, q1⟩
  simp only [↓AXq_nil,↓AXq_cons,pval,DX,Nat.reduceBEq,↓DN,UP,DF,Qa,Qb,Qc,Qd,Qe,Qf,Qg,Qh,reduceCtorEq,↓reduceIte,Na,Nb,Nc,Nk,Nf,Ng,Nh,Za,Zb,Zc,TT]
  refine hK _ _ ?_;clear hK K
  refine wS fun K hK => ?_
  simp only [↓DN,UP,DF,Qa,Qb,Qc,Qd,Qe,Qf,Qg,Qh,reduceCtorEq,↓reduceIte,Na,Nb,Nc,Nk,Nf,Ng,Nh,Za,Zb,Zc,TT]
  refine acallk (penU32_calls s s1 p ([], false) (beside.length : Int) (by omega) (by simp) q1) ?_
  rintro r s2 ⟨rfl, q2⟩
  rw [hps] at q2
  simp only [↓AXq_nil,↓AXq_cons,pval,DX,Nat.reduceBEq,↓DN,UP,DF,Qa,Qb,Qc,Qd,Qe,Qf,Qg,Qh,reduceCtorEq,↓reduceIte,Na,Nb,Nc,Nk,Nf,Ng,Nh,Za,Zb,Zc,TT]
  refine hK _ _ ?_;clear hK K
  refine wS fun K hK => ?_
  simp only [↓DN,UP,DF,Qa,Qb,Qc,Qd,Qe,Qf,Qg,Qh,reduceCtorEq,↓reduceIte,Na,Nb,Nc,Nk,Nf,Ng,Nh,Za,Zb,Zc,TT]
  refine acallk (penBytes_calls s s2 p _ (by simp) q2) ?_
  rintro r s3 ⟨rfl, rfl⟩
  generalize be 4 beside.length = bh at *
  simp only [↓AXq_nil,↓AXq_cons,pval,DX,Nat.reduceBEq,↓DN,UP,DF,Qa,Qb,Qc,Qd,Qe,Qf,Qg,Qh,reduceCtorEq,↓reduceIte,Na,Nb,Nc,Nk,Nf,Ng,Nh,Za,Zb,Zc,TT]
  refine hK _ _ ?_;clear hK K
  unfold bytesV at htag
  rw [hkd] at htag
  have rep4' : ∀ x : AV, List.replicate 4 x = [x, x, x, x] := fun _ => rfl
  refine wS fun K hK => ?_
  simp only [↓DN,UP,DF,Qa,Qb,Qc,Qd,Qe,Qf,Qg,Qh,reduceCtorEq,↓reduceIte,Na,Nb,Nc,Nk,Nf,Ng,Nh,Za,Zb,Zc,TT, hk, htk, rep4', show (0 : Int) ≤ 16 from by decide, show (16 : Int) ≤ ((48 : Nat) : Int) from by decide, show ((48 : Nat) : Int) ≤ ((48 : Nat) : Int) from by decide]
  refine acallk (htag _) ?_
  intro r s4 hout
  have hle4 : s.le s4 := AS.le.trans q2.le hout.1
  obtain ⟨t, e, rfl⟩ := outS_own hout (by rw [← List.length_pos_iff, htl]; decide)
  clear hout
  simp only [↓AXq_nil,↓AXq_cons,pval,DX,Nat.reduceBEq,↓DN,UP,DF,Qa,Qb,Qc,Qd,Qe,Qf,Qg,Qh,reduceCtorEq,↓reduceIte,Na,Nb,Nc,Nk,Nf,Ng,Nh,Za,Zb,Zc,TT, htl, show (0 : Int) ≤ 16 from by decide, show (16 : Int) ≤ ((32 : Nat) : Int) from by decide, show ¬ ((16 : Int) = ((32 : Nat) : Int)) from by decide]
  refine hK _ _ ?_;clear hK K
  refine awp_ret ?_
  simp only [retQ, AEnds, aresL, ares, List.toList_toArray, ↓upd_same]; try simp only [UP,DF,Nc,↓reduceIte,DT]
  have hl16 : (T0.take 16).length = 16 := by simp [htl]
  refine ⟨bytesV (T0.take 16) .any, s, ?_, hle4, rfl, rfl⟩
  unfold bytesV
  rw [hl16]
  exact AV.weak_any

end Go.Proofs.YtoagkleecgngdaaGreatDoor


set_option autoImplicit false
namespace Go.Proofs.YtoagkleecgngdaaGreatDoor
open Go Go.AM Go.Proofs


variable {Γ : Nat → List AV}



def opT (key nonce beside z : List UInt8) : List UInt8 := if key.length = 48 ∧ nonce.length = 16 then openedT key nonce beside z else []
def opE (key nonce beside z : List UInt8) : Nat := if key.length = 48 ∧ nonce.length = 16 then openedE key nonce beside z else 2
set_option maxHeartbeats 4000000 in
theorem open_seal_calls (hG0 : Γ 0 = stC Sha.H0) (hG : Γ 1 = Sha.K.map wV) (key nonce beside z : List UInt8) (hb : beside.length ≤ 2 ^ 30) (hz : z.length ≤ 2 ^ 30) (s : AS) :
    ACalls Tryz.prog Γ 181 [bytesV key .any, bytesV nonce .any, bytesV beside .any, bytesV z .any] s (fun r s' => r = .tup [bytesV (opT key nonce beside z) .any, .v (.int .i64 ((opE key nonce beside z : Nat) : Int))] ∧ s' = s) := by
  refine acalls_body Tryz.func181 rfl Tryz.ntmps181 Tryz.results181 (by simp) ?_
  have hsub : isub .i64 (z.length : Int) 16 = (z.length : Int) - 16 := isub_i64 (by omega)
  refine wS fun K hK => ?_
  simp only [↓DN,UP,DF,Qa,Qb,Qc,Qd,Qe,Qf,Qg,Qh,reduceCtorEq,↓reduceIte,Na,Nb,Nc,Nk,Nf,Ng,Nh,Za,Zb,Zc,TT]
  refine hK _ _ ?_;clear hK K
  refine wS fun K hK => ?_
  simp only [↓DN,UP,DF,Qa,Qb,Qc,Qd,Qe,Qf,Qg,Qh,reduceCtorEq,↓reduceIte,Na,Nb,Nc,Nk,Nf,Ng,Nh,Za,Zb,Zc,TT, hsub]
  refine hK _ _ ?_;clear hK K
  refine wK fun K hK => ?_
  refine awp_block ?_
  refine wS fun K hK => ?_
  simp only [↓DN,UP,DF,Qa,Qb,Qc,Qd,Qe,Qf,Qg,Qh,reduceCtorEq,↓reduceIte,Na,Nb,Nc,Nk,Nf,Ng,Nh,Za,Zb,Zc,TT]
  refine acallk (sfits_calls key nonce _) ?_
  rintro r s1 ⟨rfl, rfl⟩
  by_cases hf : key.length = 48 ∧ nonce.length = 16
  · have h1 : opT key nonce beside z = openedT key nonce beside z := by unfold opT; rw [if_pos hf]
    have h2 : opE key nonce beside z = openedE key nonce beside z := by unfold opE; rw [if_pos hf]
    rw [decide_eq_true hf]
    obtain ⟨hk, hn⟩ := hf
    simp only [↓AXq_nil,↓AXq_cons,pval,DX,Nat.reduceBEq,↓DN,UP,DF,Qa,Qb,Qc,Qd,Qe,Qf,Qg,Qh,reduceCtorEq,↓reduceIte,Na,Nb,Nc,Nk,Nf,Ng,Nh,Za,Zb,Zc,TT]
    refine hK _ _ ?_;clear hK K
    refine wC fun X Y hX hY => ?_
    simp only [↓DN,UP,DF,Qa,Qb,Qc,Qd,Qe,Qf,Qg,Qh,reduceCtorEq,↓reduceIte,Na,Nb,Nc,Nk,Nf,Ng,Nh,Za,Zb,Zc,TT, DB]
    refine hY ?_;clear hX hY X Y
    by_cases h16 : z.length < 16
    · have h3 : openedT key nonce beside z = [] := by unfold openedT; rw [if_pos h16]
      have h4 : openedE key nonce beside z = 10 := by unfold openedE; rw [if_pos h16]
      refine wS fun K hK => ?_
      simp only [↓DN,UP,DF,Qa,Qb,Qc,Qd,Qe,Qf,Qg,Qh,reduceCtorEq,↓reduceIte,Na,Nb,Nc,Nk,Nf,Ng,Nh,Za,Zb,Zc,TT, decide_eq_true (show (z.length : Int) - 16 < 0 by omega)]
      refine hK _ _ ?_;clear hK K
      refine wC fun X Y hX hY => ?_
      simp only [↓DN,UP,DF,Qa,Qb,Qc,Qd,Qe,Qf,Qg,Qh,reduceCtorEq,↓reduceIte,Na,Nb,Nc,Nk,Nf,Ng,Nh,Za,Zb,Zc,TT, DB]
      refine hX ?_;clear hX hY X Y
      refine wS fun K hK => ?_
      simp only [↓DN,UP,DF,Qa,Qb,Qc,Qd,Qe,Qf,Qg,Qh,reduceCtorEq,↓reduceIte,Na,Nb,Nc,Nk,Nf,Ng,Nh,Za,Zb,Zc,TT]
      refine hK _ _ ?_;clear hK K
      refine awp_ret ?_
      try simp only [thenQ, blockQ]
      simp only [retQ, AEnds, aresL, ares, List.toList_toArray, ↓upd_same]; try simp only [UP,DF,Nc,↓reduceIte,DT]
      rw [h1, h2, h3, h4]
      exact ⟨_, _, AV.weak_tup2 AV.weak_nil (AV.weak.refl _), AS.le.refl _, rfl, rfl⟩
    · have hnat : (z.length : Int) - 16 = ((z.length - 16 : Nat) : Int) := by omega
      have htz : List.take z.length (z.map byteV) = z.map byteV := List.take_of_length_le (by simp)
      have m0 : (0 : Int) ≤ ((z.length - 16 : Nat) : Int) := by omega
      have m1 : ((z.length - 16 : Nat) : Int) ≤ (z.length : Int) := by omega
      have m2 : (z.length : Int) ≤ (z.length : Int) := Int.le_refl _
      have m3 : z.length - (z.length - 16) = 16 := by omega
      rw [hnat]
      have htl : (z.take (z.length - 16)).length = z.length - 16 := by rw [List.length_take]; omega
      have hdl : (z.drop (z.length - 16)).length = 16 := by rw [List.length_drop]; omega
      have c2 := fun s => stag_calls (Γ := Γ) hG0 hG key nonce beside (z.take (z.length - 16)) hk hn hb (by omega) s
      have c1 := fun s => mask_calls (Γ := Γ) key nonce (z.take (z.length - 16)) hk hn (by omega) s
      have c4 := fun s => same_calls (Γ := Γ) (Aes.tag key nonce beside (z.take (z.length - 16))) (z.drop (z.length - 16)) (by rw [Aes.tag_len]; decide) s
      have htz2 : List.take z.length z = z := List.take_length
      unfold bytesV at c1 c2 c4
      rw [htl] at c1 c2
      rw [hdl] at c4
      refine wS fun K hK => ?_
      simp only [↓DN,UP,DF,Qa,Qb,Qc,Qd,Qe,Qf,Qg,Qh,reduceCtorEq,↓reduceIte,Na,Nb,Nc,Nk,Nf,Ng,Nh,Za,Zb,Zc,TT, decide_eq_false (show ¬ ((z.length - 16 : Nat) : Int) < 0 by omega)]
      refine hK _ _ ?_;clear hK K
      refine wC fun X Y hX hY => ?_
      simp only [↓DN,UP,DF,Qa,Qb,Qc,Qd,Qe,Qf,Qg,Qh,reduceCtorEq,↓reduceIte,Na,Nb,Nc,Nk,Nf,Ng,Nh,Za,Zb,Zc,TT, DB]
      refine hY ?_;clear hX hY X Y
      refine awp_drw_seq T.mixed [6, 10] (by kernel_rfl) ?_
      intro K hK
      simp only [↓AXq_nil,↓AXq_cons,pval,DX,Nat.reduceBEq,↓DN,UP,DF,Qa,Qb,Qc,Qd,Qe,Qf,Qg,Qh,reduceCtorEq,↓reduceIte,Na,Nb,Nc,Nk,Nf,Ng,Nh,Za,Zb,Zc,TT, m0, m1, m2, m3, htz, htz2]
      refine acallk (c2 _) ?_
      rintro r s2 ⟨rfl, rfl⟩
      simp only [↓AXq_nil,↓AXq_cons,pval,DX,Nat.reduceBEq,↓DN,UP,DF,Qa,Qb,Qc,Qd,Qe,Qf,Qg,Qh,reduceCtorEq,↓reduceIte,Na,Nb,Nc,Nk,Nf,Ng,Nh,Za,Zb,Zc,TT, m0, m1, m2, m3, htz, htz2]
      refine acallk (c4 _) ?_
      rintro r s3 ⟨rfl, rfl⟩
      by_cases ht : Aes.tag key nonce beside (z.take (z.length - 16)) = z.drop (z.length - 16)
      · have h3 : openedT key nonce beside z = Aes.mask key nonce (z.take (z.length - 16)) := by unfold openedT; rw [if_neg h16, if_pos ht]
        have h4 : openedE key nonce beside z = 0 := by unfold openedE; rw [if_neg h16, if_pos ht]
        rw [decide_eq_true ht]
        simp only [↓AXq_nil,↓AXq_cons,pval,DX,Nat.reduceBEq,↓DN,UP,DF,Qa,Qb,Qc,Qd,Qe,Qf,Qg,Qh,reduceCtorEq,↓reduceIte,Na,Nb,Nc,Nk,Nf,Ng,Nh,Za,Zb,Zc,TT]
        refine hK _ _ ?_;clear hK K
        refine wC fun X Y hX hY => ?_
        simp only [↓DN,UP,DF,Qa,Qb,Qc,Qd,Qe,Qf,Qg,Qh,reduceCtorEq,↓reduceIte,Na,Nb,Nc,Nk,Nf,Ng,Nh,Za,Zb,Zc,TT, DB]
        refine hY ?_;clear hX hY X Y
        refine awp_skip ?_
        simp only [blockQ, thenQ, if_true, if_false]
        refine hK _ _ ?_;clear hK K
        refine wS fun K hK => ?_
        simp only [↓DN,UP,DF,Qa,Qb,Qc,Qd,Qe,Qf,Qg,Qh,reduceCtorEq,↓reduceIte,Na,Nb,Nc,Nk,Nf,Ng,Nh,Za,Zb,Zc,TT, m0, m1, m2, m3, htz, htz2]
        refine acallk (c1 _) ?_
        rintro r s4 ⟨rfl, rfl⟩
        simp only [↓AXq_nil,↓AXq_cons,pval,DX,Nat.reduceBEq,↓DN,UP,DF,Qa,Qb,Qc,Qd,Qe,Qf,Qg,Qh,reduceCtorEq,↓reduceIte,Na,Nb,Nc,Nk,Nf,Ng,Nh,Za,Zb,Zc,TT]
        refine hK _ _ ?_;clear hK K
        refine awp_ret ?_
        simp only [retQ, AEnds, aresL, ares, List.toList_toArray, ↓upd_same]; try simp only [UP,DF,Nc,↓reduceIte,DT]
        rw [h1, h2, h3, h4]
        exact ⟨_, _, AV.weak.refl _, AS.le.refl _, rfl, rfl⟩
      · have h3 : openedT key nonce beside z = [] := by unfold openedT; rw [if_neg h16, if_neg ht]
        have h4 : openedE key nonce beside z = 14 := by unfold openedE; rw [if_neg h16, if_neg ht]
        rw [decide_eq_false ht]
        simp only [↓AXq_nil,↓AXq_cons,pval,DX,Nat.reduceBEq,↓DN,UP,DF,Qa,Qb,Qc,Qd,Qe,Qf,Qg,Qh,reduceCtorEq,↓reduceIte,Na,Nb,Nc,Nk,Nf,Ng,Nh,Za,Zb,Zc,TT]
        refine hK _ _ ?_;clear hK K
        refine wC fun X Y hX hY => ?_
        simp only [↓DN,UP,DF,Qa,Qb,Qc,Qd,Qe,Qf,Qg,Qh,reduceCtorEq,↓reduceIte,Na,Nb,Nc,Nk,Nf,Ng,Nh,Za,Zb,Zc,TT, DB]
        refine hX ?_;clear hX hY X Y
        refine wS fun K hK => ?_
        simp only [↓DN,UP,DF,Qa,Qb,Qc,Qd,Qe,Qf,Qg,Qh,reduceCtorEq,↓reduceIte,Na,Nb,Nc,Nk,Nf,Ng,Nh,Za,Zb,Zc,TT]
        refine hK _ _ ?_;clear hK K
        refine awp_ret ?_
        try simp only [thenQ, blockQ]
        simp only [retQ, AEnds, aresL, ares, List.toList_toArray, ↓upd_same]; try simp only [UP,DF,Nc,↓reduceIte,DT]
        rw [h1, h2, h3, h4]
        exact ⟨_, _, AV.weak_tup2 AV.weak_nil (AV.weak.refl _), AS.le.refl _, rfl, rfl⟩
  · have h1 : opT key nonce beside z = [] := by unfold opT; rw [if_neg hf]
    have h2 : opE key nonce beside z = 2 := by unfold opE; rw [if_neg hf]
    rw [decide_eq_false hf]
    simp only [↓AXq_nil,↓AXq_cons,pval,DX,Nat.reduceBEq,↓DN,UP,DF,Qa,Qb,Qc,Qd,Qe,Qf,Qg,Qh,reduceCtorEq,↓reduceIte,Na,Nb,Nc,Nk,Nf,Ng,Nh,Za,Zb,Zc,TT]
    refine hK _ _ ?_;clear hK K
    refine wC fun X Y hX hY => ?_
    simp only [↓DN,UP,DF,Qa,Qb,Qc,Qd,Qe,Qf,Qg,Qh,reduceCtorEq,↓reduceIte,Na,Nb,Nc,Nk,Nf,Ng,Nh,Za,Zb,Zc,TT, DB]
    refine hX ?_;clear hX hY X Y
    refine wS fun K hK => ?_
    simp only [↓DN,UP,DF,Qa,Qb,Qc,Qd,Qe,Qf,Qg,Qh,reduceCtorEq,↓reduceIte,Na,Nb,Nc,Nk,Nf,Ng,Nh,Za,Zb,Zc,TT]
    refine hK _ _ ?_;clear hK K
    refine awp_ret ?_
    try simp only [thenQ, blockQ]
    simp only [retQ, AEnds, aresL, ares, List.toList_toArray, ↓upd_same]; try simp only [UP,DF,Nc,↓reduceIte,DT]
    rw [h1, h2]
    exact ⟨_, _, AV.weak_tup2 AV.weak_nil (AV.weak.refl _), AS.le.refl _, rfl, rfl⟩

end Go.Proofs.YtoagkleecgngdaaGreatDoor


set_option autoImplicit false
namespace Go.Proofs.YtoagkleecgngdaaGreatDoor
open Go Go.AM Go.Proofs


variable {Γ : Nat → List AV}

def ctxOk (g : List UInt8) (e : Int) : Prop := g.length ≤ 16 ∧ 0 ≤ e ∧ e ≤ 1048576
theorem ctx_len (g : List UInt8) (e : Nat) : (Vault.ctx g e).length = 9 + g.length := by
  simp [Vault.ctx]; omega

set_option maxHeartbeats 400000 in
theorem context_ok (g : List UInt8) (e : Nat) (hg : g.length ≤ 16) (he : e ≤ 1048576) (s : AS) :
    ACalls Tryz.prog Γ 179 [bytesV g .any, .v (.int .i64 e)] s (fun r s' => r = bytesV (Vault.ctx g e) .any ∧ s' = s) := by
  refine acalls_body Tryz.func179 rfl Tryz.ntmps179 Tryz.results179 (by simp) ?_
  have hu : iconv .u64 (e : Int) = (e : Int) := u64_conv (by omega)
  have hpen : penNum 8 e (penText 1 g ([], false)) = (Vault.ctx g e, false) := by
    rw [penNum_raw, penText_raw (by omega), penRaw_raw]
    simp [penRaw, Vault.ctx]
  refine wS fun K hK => ?_
  simp only [↓DN,UP,DF,Qa,Qb,Qc,Qd,Qe,Qf,Qg,Qh,reduceCtorEq,↓reduceIte,Na,Nb,Nc,Nk,Nf,Ng,Nh,Za,Zb,Zc,TT]
  refine hK _ _ ?_;clear hK K
  refine wK fun K hK => ?_
  refine wS fun K hK => ?_
  simp only [↓DN,UP,DF,Qa,Qb,Qc,Qd,Qe,Qf,Qg,Qh,reduceCtorEq,↓reduceIte,Na,Nb,Nc,Nk,Nf,Ng,Nh,Za,Zb,Zc,TT, show decide ((16 : Int) < (g.length : Int)) = false from decide_eq_false (by omega), show decide ((e : Int) < 0) = false from decide_eq_false (by omega), show decide ((1048576 : Int) < (e : Int)) = false from decide_eq_false (by omega)]
  refine hK _ _ ?_;clear hK K
  refine wC fun X Y hX hY => ?_
  simp only [↓DN,UP,DF,Qa,Qb,Qc,Qd,Qe,Qf,Qg,Qh,reduceCtorEq,↓reduceIte,Na,Nb,Nc,Nk,Nf,Ng,Nh,Za,Zb,Zc,TT, DB]
  refine hY ?_;clear hX hY X Y
  refine awp_skip ?_
  refine hK _ _ ?_;clear hK K
  refine wS fun K hK => ?_
  simp only [↓DN,UP,DF,Qa,Qb,Qc,Qd,Qe,Qf,Qg,Qh,reduceCtorEq,↓reduceIte,Na,Nb,Nc,Nk,Nf,Ng,Nh,Za,Zb,Zc,TT]
  refine acallk (new_calls s) ?_
  rintro r s1 ⟨p, rfl, h1⟩
  simp only [↓AXq_nil,↓AXq_cons,pval,DX,Nat.reduceBEq,↓DN,UP,DF,Qa,Qb,Qc,Qd,Qe,Qf,Qg,Qh,reduceCtorEq,↓reduceIte,Na,Nb,Nc,Nk,Nf,Ng,Nh,Za,Zb,Zc,TT]
  refine hK _ _ ?_;clear hK K
  refine wS fun K hK => ?_
  simp only [↓DN,UP,DF,Qa,Qb,Qc,Qd,Qe,Qf,Qg,Qh,reduceCtorEq,↓reduceIte,Na,Nb,Nc,Nk,Nf,Ng,Nh,Za,Zb,Zc,TT]
  refine acallk (penShort_calls s s1 p _ _ g (IsB.any g) (by simp; omega) h1) ?_
  rintro r s2 ⟨rfl, h2⟩
  simp only [↓AXq_nil,↓AXq_cons,pval,DX,Nat.reduceBEq,↓DN,UP,DF,Qa,Qb,Qc,Qd,Qe,Qf,Qg,Qh,reduceCtorEq,↓reduceIte,Na,Nb,Nc,Nk,Nf,Ng,Nh,Za,Zb,Zc,TT]
  refine hK _ _ ?_;clear hK K
  refine wS fun K hK => ?_
  simp only [↓DN,UP,DF,Qa,Qb,Qc,Qd,Qe,Qf,Qg,Qh,reduceCtorEq,↓reduceIte,Na,Nb,Nc,Nk,Nf,Ng,Nh,Za,Zb,Zc,TT, hu]
  refine acallk (penU64_calls s s2 p _ e (by omega) (by have := Kdf.text_len 1 g ([], false); simp at this; omega) h2) ?_
  rintro r s3 ⟨rfl, h3⟩
  rw [hpen] at h3
  simp only [↓AXq_nil,↓AXq_cons,pval,DX,Nat.reduceBEq,↓DN,UP,DF,Qa,Qb,Qc,Qd,Qe,Qf,Qg,Qh,reduceCtorEq,↓reduceIte,Na,Nb,Nc,Nk,Nf,Ng,Nh,Za,Zb,Zc,TT]
  refine hK _ _ ?_;clear hK K
  refine wS fun K hK => ?_
  simp only [↓DN,UP,DF,Qa,Qb,Qc,Qd,Qe,Qf,Qg,Qh,reduceCtorEq,↓reduceIte,Na,Nb,Nc,Nk,Nf,Ng,Nh,Za,Zb,Zc,TT]
  refine acallk (penBytes_calls s s3 p _ (by rw [ctx_len]; omega) h3) ?_
  rintro r s4 ⟨rfl, rfl⟩
  simp only [↓AXq_nil,↓AXq_cons,pval,DX,Nat.reduceBEq,↓DN,UP,DF,Qa,Qb,Qc,Qd,Qe,Qf,Qg,Qh,reduceCtorEq,↓reduceIte,Na,Nb,Nc,Nk,Nf,Ng,Nh,Za,Zb,Zc,TT]
  refine hK _ _ ?_;clear hK K
  refine wS fun K hK => ?_
  simp only [↓DN,UP,DF,Qa,Qb,Qc,Qd,Qe,Qf,Qg,Qh,reduceCtorEq,↓reduceIte,Na,Nb,Nc,Nk,Nf,Ng,Nh,Za,Zb,Zc,TT]
  refine hK _ _ ?_;clear hK K
  refine awp_ret ?_
  simp only [retQ, AEnds, aresL, ares, List.toList_toArray, ↓upd_same]; try simp only [UP,DF,Nc,↓reduceIte,DT]
  exact ⟨_, s, AV.weak.refl _, h3.le, rfl, rfl⟩

set_option maxHeartbeats 400000 in
theorem context_bad (g : List UInt8) (e : Int) (h : ¬ ctxOk g e) (s : AS) :
    ACalls Tryz.prog Γ 179 [bytesV g .any, .v (.int .i64 e)] s (fun r s' => r = .v (.slice none 0 0) ∧ s' = s) := by
  refine acalls_body Tryz.func179 rfl Tryz.ntmps179 Tryz.results179 (by simp) ?_
  refine wS fun K hK => ?_
  simp only [↓DN,UP,DF,Qa,Qb,Qc,Qd,Qe,Qf,Qg,Qh,reduceCtorEq,↓reduceIte,Na,Nb,Nc,Nk,Nf,Ng,Nh,Za,Zb,Zc,TT]
  refine hK _ _ ?_;clear hK K
  refine wK fun K hK => ?_
  rcases tt3 (decide ((16 : Int) < (g.length : Int))) (decide (e < 0)) (decide ((1048576 : Int) < e)) with hd | hd | hd | hd
  · refine wS fun K hK => ?_
    simp only [↓DN,UP,DF,Qa,Qb,Qc,Qd,Qe,Qf,Qg,Qh,reduceCtorEq,↓reduceIte,Na,Nb,Nc,Nk,Nf,Ng,Nh,Za,Zb,Zc,TT, hd]
    refine hK _ _ ?_;clear hK K
    refine wC fun X Y hX hY => ?_
    simp only [↓DN,UP,DF,Qa,Qb,Qc,Qd,Qe,Qf,Qg,Qh,reduceCtorEq,↓reduceIte,Na,Nb,Nc,Nk,Nf,Ng,Nh,Za,Zb,Zc,TT, DB]
    refine hX ?_;clear hX hY X Y
    refine wS fun K hK => ?_
    simp only [↓DN,UP,DF,Qa,Qb,Qc,Qd,Qe,Qf,Qg,Qh,reduceCtorEq,↓reduceIte,Na,Nb,Nc,Nk,Nf,Ng,Nh,Za,Zb,Zc,TT]
    refine hK _ _ ?_;clear hK K
    refine awp_ret ?_
    try simp only [thenQ, blockQ]
    simp only [retQ, AEnds, aresL, ares, List.toList_toArray, ↓upd_same]; try simp only [UP,DF,Nc,↓reduceIte,DT]
    exact ⟨_, s, AV.weak.refl _, AS.le.refl _, rfl, rfl⟩
  · refine wS fun K hK => ?_
    simp only [↓DN,UP,DF,Qa,Qb,Qc,Qd,Qe,Qf,Qg,Qh,reduceCtorEq,↓reduceIte,Na,Nb,Nc,Nk,Nf,Ng,Nh,Za,Zb,Zc,TT, hd]
    refine hK _ _ ?_;clear hK K
    refine wC fun X Y hX hY => ?_
    simp only [↓DN,UP,DF,Qa,Qb,Qc,Qd,Qe,Qf,Qg,Qh,reduceCtorEq,↓reduceIte,Na,Nb,Nc,Nk,Nf,Ng,Nh,Za,Zb,Zc,TT, DB]
    refine hX ?_;clear hX hY X Y
    refine wS fun K hK => ?_
    simp only [↓DN,UP,DF,Qa,Qb,Qc,Qd,Qe,Qf,Qg,Qh,reduceCtorEq,↓reduceIte,Na,Nb,Nc,Nk,Nf,Ng,Nh,Za,Zb,Zc,TT]
    refine hK _ _ ?_;clear hK K
    refine awp_ret ?_
    try simp only [thenQ, blockQ]
    simp only [retQ, AEnds, aresL, ares, List.toList_toArray, ↓upd_same]; try simp only [UP,DF,Nc,↓reduceIte,DT]
    exact ⟨_, s, AV.weak.refl _, AS.le.refl _, rfl, rfl⟩
  · refine wS fun K hK => ?_
    simp only [↓DN,UP,DF,Qa,Qb,Qc,Qd,Qe,Qf,Qg,Qh,reduceCtorEq,↓reduceIte,Na,Nb,Nc,Nk,Nf,Ng,Nh,Za,Zb,Zc,TT, hd]
    refine hK _ _ ?_;clear hK K
    refine wC fun X Y hX hY => ?_
    simp only [↓DN,UP,DF,Qa,Qb,Qc,Qd,Qe,Qf,Qg,Qh,reduceCtorEq,↓reduceIte,Na,Nb,Nc,Nk,Nf,Ng,Nh,Za,Zb,Zc,TT, DB]
    refine hX ?_;clear hX hY X Y
    refine wS fun K hK => ?_
    simp only [↓DN,UP,DF,Qa,Qb,Qc,Qd,Qe,Qf,Qg,Qh,reduceCtorEq,↓reduceIte,Na,Nb,Nc,Nk,Nf,Ng,Nh,Za,Zb,Zc,TT]
    refine hK _ _ ?_;clear hK K
    refine awp_ret ?_
    try simp only [thenQ, blockQ]
    simp only [retQ, AEnds, aresL, ares, List.toList_toArray, ↓upd_same]; try simp only [UP,DF,Nc,↓reduceIte,DT]
    exact ⟨_, s, AV.weak.refl _, AS.le.refl _, rfl, rfl⟩
  · exact absurd (by simp only [decide_eq_false_iff_not] at hd; unfold ctxOk; omega) h

end Go.Proofs.YtoagkleecgngdaaGreatDoor


set_option autoImplicit false
namespace Go.Proofs.YtoagkleecgngdaaGreatDoor
open Go Go.AM Go.Proofs


variable {Γ : Nat → List AV}



theorem vk_len (key : List UInt8) : (Vault.vk key).length = 48 := by
  rw [Vault.vk, Kdf.label, show Kdf.fits Vault.wrapW [] 48 = true from by decide, if_pos rfl]
  exact Kdf.expand_len _ _ _
theorem vn_fits (c : List UInt8) (hc : c.length ≤ 65535) : Kdf.fits Vault.nonceW c 16 = true := by
  simp [Kdf.fits, Vault.nonceW]
  omega
theorem vn_len (key c : List UInt8) (hc : c.length ≤ 65535) : (Vault.vn key c).length = 16 := by
  rw [Vault.vn, Kdf.label, vn_fits c hc, if_pos rfl]
  exact Kdf.expand_len _ _ _

set_option maxHeartbeats 400000 in
theorem vkeys_calls (hG0 : Γ 0 = stC Sha.H0) (hG : Γ 1 = Sha.K.map wV) (key c : List UInt8) (hk : key.length ≤ 2 ^ 36) (hc : c.length ≤ 60000) (s : AS) :
    ACalls Tryz.prog Γ 180 [bytesV key .any, bytesV c .any] s (fun r s' => r = .tup [bytesV (Vault.vk key) .any, bytesV (Vault.vn key c) .any] ∧ s' = s) := by
  refine acalls_body Tryz.func180 rfl Tryz.ntmps180 Tryz.results180 (by simp) ?_
  have h1 := fun s => label_calls (Γ := Γ) hG0 hG key Vault.wrapW [] 48 hk (by decide) (by decide) (by decide) s
  have h2 := fun s => label_calls (Γ := Γ) hG0 hG key Vault.nonceW c 16 hk (by decide) (by omega) (by decide) s
  change ∀ s, ACalls _ _ _ _ s (fun r s' => r = .tup [bytesV (Vault.vk key) .any, _] ∧ s' = s) at h1
  change ∀ s, ACalls _ _ _ _ s (fun r s' => r = .tup [bytesV (Vault.vn key c) .any, _] ∧ s' = s) at h2
  generalize Vault.vk key = k at *
  generalize Vault.vn key c = n at *
  refine wS fun K hK => ?_
  simp only [↓DN,UP,DF,Qa,Qb,Qc,Qd,Qe,Qf,Qg,Qh,reduceCtorEq,↓reduceIte,Na,Nb,Nc,Nk,Nf,Ng,Nh,Za,Zb,Zc,TT]
  refine hK _ _ ?_;clear hK K
  refine wS fun K hK => ?_
  simp only [↓DN,UP,DF,Qa,Qb,Qc,Qd,Qe,Qf,Qg,Qh,reduceCtorEq,↓reduceIte,Na,Nb,Nc,Nk,Nf,Ng,Nh,Za,Zb,Zc,TT]
  refine acallk (ACalls.weaks (AVs.weak.cons (AV.weak.refl _) (AVs.weak.cons (AV.weak.refl _) (AVs.weak.cons (AV.weak_nil (sz := 1)) (AVs.weak.refl _)))) (h1 s)) ?_
  rintro r s1 ⟨rfl, rfl⟩
  simp only [↓AXq_nil,↓AXq_cons,pval,DX,Nat.reduceBEq,↓DN,UP,DF,Qa,Qb,Qc,Qd,Qe,Qf,Qg,Qh,reduceCtorEq,↓reduceIte,Na,Nb,Nc,Nk,Nf,Ng,Nh,Za,Zb,Zc,TT]
  refine hK _ _ ?_;clear hK K
  refine wS fun K hK => ?_
  simp only [↓DN,UP,DF,Qa,Qb,Qc,Qd,Qe,Qf,Qg,Qh,reduceCtorEq,↓reduceIte,Na,Nb,Nc,Nk,Nf,Ng,Nh,Za,Zb,Zc,TT]
  refine acallk (h2 _) ?_
  rintro r s2 ⟨rfl, rfl⟩
  simp only [↓AXq_nil,↓AXq_cons,pval,DX,Nat.reduceBEq,↓DN,UP,DF,Qa,Qb,Qc,Qd,Qe,Qf,Qg,Qh,reduceCtorEq,↓reduceIte,Na,Nb,Nc,Nk,Nf,Ng,Nh,Za,Zb,Zc,TT]
  refine hK _ _ ?_;clear hK K
  refine wS fun K hK => ?_
  simp only [↓DN,UP,DF,Qa,Qb,Qc,Qd,Qe,Qf,Qg,Qh,reduceCtorEq,↓reduceIte,Na,Nb,Nc,Nk,Nf,Ng,Nh,Za,Zb,Zc,TT]
  refine hK _ _ ?_;clear hK K
  refine awp_ret ?_
  simp only [retQ, AEnds, aresL, ares, List.toList_toArray, ↓upd_same]; try simp only [UP,DF,Nc,↓reduceIte,DT]
  exact ⟨_, _, AV.weak.refl _, AS.le.refl _, rfl, rfl⟩

theorem refIs17_calls (g : List UInt8) (e : Int) (s : AS) : ACalls Tryz.prog Γ 182 [.v (.string ⟨g.toArray⟩), .v (.int .i64 e)] s (fun r s' => (∃ b, r = .v (.bool b) ∧ (b = true ↔ ctxOk g e)) ∧ s' = s) := by
  refine acalls_body Tryz.func182 rfl Tryz.ntmps182 Tryz.results182 (by simp) ?_
  unfold ctxOk
  refine wS fun K hK => ?_
  simp only [↓DN,UP,DF,Qa,Qb,Qc,Qd,Qe,Qf,Qg,Qh,reduceCtorEq,↓reduceIte,Na,Nb,Nc,Nk,Nf,Ng,Nh,Za,Zb,Zc,TT]
  refine hK _ _ ?_;clear hK K
  rcases ff3 (decide ((g.length : Int) ≤ 16)) (decide (0 ≤ e)) (decide (e ≤ 1048576)) with hd | hd | hd | hd
  all_goals
    refine wS fun K hK => ?_
    simp only [↓DN,UP,DF,Qa,Qb,Qc,Qd,Qe,Qf,Qg,Qh,reduceCtorEq,↓reduceIte,Na,Nb,Nc,Nk,Nf,Ng,Nh,Za,Zb,Zc,TT, hd]
    refine hK _ _ ?_;clear hK K
    refine awp_ret ?_
    simp only [retQ, AEnds, aresL, ares, List.toList_toArray, ↓upd_same]; try simp only [UP,DF,Nc,↓reduceIte,DT]
    refine ⟨_, _, AV.weak.refl _, AS.le.refl _, ⟨_, rfl, ?_⟩, rfl⟩
    simp only [decide_eq_true_eq, decide_eq_false_iff_not] at hd
    simp only [Bool.false_eq_true, false_iff, true_iff]
    omega

theorem refContext17_calls (g : List UInt8) (e : Nat) (hg : g.length ≤ 16) (he : e ≤ 1048576) (s : AS) :
    ACalls Tryz.prog Γ 183 [.v (.string ⟨g.toArray⟩), .v (.int .i64 e)] s (fun r s' => r = .v (.string ⟨(Vault.ctx g e).toArray⟩) ∧ s' = s) := by
  refine acalls_body Tryz.func183 rfl Tryz.ntmps183 Tryz.results183 (by simp) ?_
  have hu : iconv .u64 (e : Int) = (e : Int) := u64_conv (by omega)
  refine wS fun K hK => ?_
  simp only [↓DN,UP,DF,Qa,Qb,Qc,Qd,Qe,Qf,Qg,Qh,reduceCtorEq,↓reduceIte,Na,Nb,Nc,Nk,Nf,Ng,Nh,Za,Zb,Zc,TT]
  refine hK _ _ ?_;clear hK K
  refine wS fun K hK => ?_
  simp only [↓DN,UP,DF,Qa,Qb,Qc,Qd,Qe,Qf,Qg,Qh,reduceCtorEq,↓reduceIte,Na,Nb,Nc,Nk,Nf,Ng,Nh,Za,Zb,Zc,TT]
  refine acallk (refText_calls g 1 (by omega) (by decide) s) ?_
  rintro r s1 ⟨rfl, rfl⟩
  simp only [↓AXq_nil,↓AXq_cons,pval,DX,Nat.reduceBEq,↓DN,UP,DF,Qa,Qb,Qc,Qd,Qe,Qf,Qg,Qh,reduceCtorEq,↓reduceIte,Na,Nb,Nc,Nk,Nf,Ng,Nh,Za,Zb,Zc,TT, hu]
  refine acallk (refNumber_calls e 8 (by omega) (by decide) s1) ?_
  rintro r s2 ⟨rfl, rfl⟩
  simp only [↓AXq_nil,↓AXq_cons,pval,DX,Nat.reduceBEq,↓DN,UP,DF,Qa,Qb,Qc,Qd,Qe,Qf,Qg,Qh,reduceCtorEq,↓reduceIte,Na,Nb,Nc,Nk,Nf,Ng,Nh,Za,Zb,Zc,TT, i64_room (show (be 1 g.length).length + g.length + (be 8 e).length < 2 ^ 62 by simp; omega)]
  refine hK _ _ ?_;clear hK K
  refine awp_ret ?_
  simp only [retQ, AEnds, aresL, ares, List.toList_toArray, ↓upd_same]; try simp only [UP,DF,Nc,↓reduceIte,DT]
  refine ⟨_, _, AV.weak.refl _, AS.le.refl _, ?_, rfl⟩
  simp [Vault.ctx]

end Go.Proofs.YtoagkleecgngdaaGreatDoor


set_option autoImplicit false
namespace Go.Proofs.YtoagkleecgngdaaGreatDoor
open Go Go.AM Go.Proofs



variable {Γ : Nat → List AV}



theorem len48 {n : Nat} (h : n = 48) : ((n : Int) != 48) = false := by subst h; rfl
theorem len48T {n : Nat} (h : n ≠ 48) : ((n : Int) != 48) = true := by simp only [bne_iff_ne, ne_eq]; omega
end Go.Proofs.YtoagkleecgngdaaGreatDoor


set_option autoImplicit false
namespace Go.Proofs.YtoagkleecgngdaaGreatDoor
open Go Go.AM Go.Proofs


variable {Γ : Nat → List AV}



theorem len32 {n : Nat} (h : n = 32) : ((n : Int) != 32) = false := by subst h; rfl
theorem len32T {n : Nat} (h : n ≠ 32) : ((n : Int) != 32) = true := by simp only [bne_iff_ne, ne_eq]; omega

set_option maxHeartbeats 1000000 in
theorem unwrap_ok (hG0 : Γ 0 = stC Sha.H0) (hG : Γ 1 = Sha.K.map wV) (key g t : List UInt8) (e : Nat) (hg : g.length ≤ 16) (he : e ≤ 1048576) (hk : key.length = 32) (ht : t.length = 48) (s : AS) :
    ACalls Tryz.prog Γ 100 [bytesV key .any, bytesV g .any, .v (.int .i64 e), bytesV t .any] s (fun r s' => r = .tup [bytesV (openedT (Vault.vk key) (Vault.vn key (Vault.ctx g e)) (Vault.ctx g e) t) .any, .v (.int .i64 ((openedE (Vault.vk key) (Vault.vn key (Vault.ctx g e)) (Vault.ctx g e) t : Nat) : Int))] ∧ s' = s) := by
  refine acalls_body Tryz.func100 rfl Tryz.ntmps100 Tryz.results100 (by simp) ?_
  have hc := fun s => context_ok (Γ := Γ) g e hg he s
  have hcl := ctx_len g e
  have hkl := vk_len key
  have hnl := vn_len key (Vault.ctx g e) (by omega)
  have hks := fun s => vkeys_calls (Γ := Γ) hG0 hG key (Vault.ctx g e) (by omega) (by omega) s
  have hs := fun s => open_seal_calls (Γ := Γ) hG0 hG (Vault.vk key) (Vault.vn key (Vault.ctx g e)) (Vault.ctx g e) t (by omega) (by omega) s
  simp only [show opT (Vault.vk key) (Vault.vn key (Vault.ctx g e)) (Vault.ctx g e) t = openedT (Vault.vk key) (Vault.vn key (Vault.ctx g e)) (Vault.ctx g e) t from by unfold opT; rw [if_pos ⟨hkl, hnl⟩], show opE (Vault.vk key) (Vault.vn key (Vault.ctx g e)) (Vault.ctx g e) t = openedE (Vault.vk key) (Vault.vn key (Vault.ctx g e)) (Vault.ctx g e) t from by unfold opE; rw [if_pos ⟨hkl, hnl⟩]] at hs
  generalize Vault.vn key (Vault.ctx g e) = n at *
  generalize Vault.ctx g e = c at *
  generalize Vault.vk key = k at *
  have hc0 : c.length ≠ 0 := by omega
  generalize openedT k n c t = z at *
  generalize openedE k n c t = y at *
  refine wS fun K hK => ?_
  simp only [↓DN,UP,DF,Qa,Qb,Qc,Qd,Qe,Qf,Qg,Qh,reduceCtorEq,↓reduceIte,Na,Nb,Nc,Nk,Nf,Ng,Nh,Za,Zb,Zc,TT]
  refine hK _ _ ?_;clear hK K
  refine wS fun K hK => ?_
  simp only [↓DN,UP,DF,Qa,Qb,Qc,Qd,Qe,Qf,Qg,Qh,reduceCtorEq,↓reduceIte,Na,Nb,Nc,Nk,Nf,Ng,Nh,Za,Zb,Zc,TT]
  refine acallk (hc s) ?_
  rintro r s1 ⟨rfl, rfl⟩
  simp only [↓AXq_nil,↓AXq_cons,pval,DX,Nat.reduceBEq,↓DN,UP,DF,Qa,Qb,Qc,Qd,Qe,Qf,Qg,Qh,reduceCtorEq,↓reduceIte,Na,Nb,Nc,Nk,Nf,Ng,Nh,Za,Zb,Zc,TT]
  refine hK _ _ ?_;clear hK K
  refine wK fun K hK => ?_
  refine wS fun K hK => ?_
  simp only [↓DN,UP,DF,Qa,Qb,Qc,Qd,Qe,Qf,Qg,Qh,reduceCtorEq,↓reduceIte,Na,Nb,Nc,Nk,Nf,Ng,Nh,Za,Zb,Zc,TT, hc0, len32 hk, len48 ht]
  refine hK _ _ ?_;clear hK K
  refine wC fun X Y hX hY => ?_
  simp only [↓DN,UP,DF,Qa,Qb,Qc,Qd,Qe,Qf,Qg,Qh,reduceCtorEq,↓reduceIte,Na,Nb,Nc,Nk,Nf,Ng,Nh,Za,Zb,Zc,TT, DB]
  refine hY ?_;clear hX hY X Y
  refine awp_skip ?_
  refine hK _ _ ?_;clear hK K
  refine wS fun K hK => ?_
  simp only [↓DN,UP,DF,Qa,Qb,Qc,Qd,Qe,Qf,Qg,Qh,reduceCtorEq,↓reduceIte,Na,Nb,Nc,Nk,Nf,Ng,Nh,Za,Zb,Zc,TT]
  refine acallk (hks _) ?_
  rintro r s2 ⟨rfl, rfl⟩
  simp only [↓AXq_nil,↓AXq_cons,pval,DX,Nat.reduceBEq,↓DN,UP,DF,Qa,Qb,Qc,Qd,Qe,Qf,Qg,Qh,reduceCtorEq,↓reduceIte,Na,Nb,Nc,Nk,Nf,Ng,Nh,Za,Zb,Zc,TT]
  refine hK _ _ ?_;clear hK K
  refine wS fun K hK => ?_
  simp only [↓DN,UP,DF,Qa,Qb,Qc,Qd,Qe,Qf,Qg,Qh,reduceCtorEq,↓reduceIte,Na,Nb,Nc,Nk,Nf,Ng,Nh,Za,Zb,Zc,TT]
  refine acallk (hs _) ?_
  rintro r s3 ⟨rfl, rfl⟩
  simp only [↓AXq_nil,↓AXq_cons,pval,DX,Nat.reduceBEq,↓DN,UP,DF,Qa,Qb,Qc,Qd,Qe,Qf,Qg,Qh,reduceCtorEq,↓reduceIte,Na,Nb,Nc,Nk,Nf,Ng,Nh,Za,Zb,Zc,TT]
  refine hK _ _ ?_;clear hK K
  refine awp_ret ?_
  simp only [retQ, AEnds, aresL, ares, List.toList_toArray, ↓upd_same]; try simp only [UP,DF,Nc,↓reduceIte,DT]
  exact ⟨_, _, AV.weak.refl _, AS.le.refl _, rfl, rfl⟩

set_option maxHeartbeats 1000000 in
theorem unwrap_bad (key g t : List UInt8) (e : Int) (h : ¬ (ctxOk g e ∧ key.length = 32 ∧ t.length = 48)) (s : AS) :
    ACalls Tryz.prog Γ 100 [bytesV key .any, bytesV g .any, .v (.int .i64 e), bytesV t .any] s (fun r s' => r = .tup [bytesV [] .any, .v (.int .i64 ((2 : Nat) : Int))] ∧ s' = s) := by
  refine acalls_body Tryz.func100 rfl Tryz.ntmps100 Tryz.results100 (by simp) ?_
  by_cases hx : ctxOk g e
  · obtain ⟨m, rfl⟩ : ∃ m : Nat, e = (m : Int) := ⟨e.toNat, by have := hx.2.1; omega⟩
    have hc := fun s => context_ok (Γ := Γ) g m hx.1 (by have := hx.2.2; omega) s
    have hcl := ctx_len g m
    generalize Vault.ctx g m = c at *
    have hc0 : c.length ≠ 0 := by omega
    have hgo : key.length ≠ 32 ∨ (key.length = 32 ∧ t.length ≠ 48) := by
      by_cases h1 : key.length = 32
      · exact Or.inr ⟨h1, fun h2 => h ⟨hx, h1, h2⟩⟩
      · exact Or.inl h1
    refine wS fun K hK => ?_
    simp only [↓DN,UP,DF,Qa,Qb,Qc,Qd,Qe,Qf,Qg,Qh,reduceCtorEq,↓reduceIte,Na,Nb,Nc,Nk,Nf,Ng,Nh,Za,Zb,Zc,TT]
    refine hK _ _ ?_;clear hK K
    refine wS fun K hK => ?_
    simp only [↓DN,UP,DF,Qa,Qb,Qc,Qd,Qe,Qf,Qg,Qh,reduceCtorEq,↓reduceIte,Na,Nb,Nc,Nk,Nf,Ng,Nh,Za,Zb,Zc,TT]
    refine acallk (hc s) ?_
    rintro r s1 ⟨rfl, rfl⟩
    simp only [↓AXq_nil,↓AXq_cons,pval,DX,Nat.reduceBEq,↓DN,UP,DF,Qa,Qb,Qc,Qd,Qe,Qf,Qg,Qh,reduceCtorEq,↓reduceIte,Na,Nb,Nc,Nk,Nf,Ng,Nh,Za,Zb,Zc,TT]
    refine hK _ _ ?_;clear hK K
    refine wK fun K hK => ?_
    rcases hgo with hk | ⟨hk, ht⟩
    · refine wS fun K hK => ?_
      simp only [↓DN,UP,DF,Qa,Qb,Qc,Qd,Qe,Qf,Qg,Qh,reduceCtorEq,↓reduceIte,Na,Nb,Nc,Nk,Nf,Ng,Nh,Za,Zb,Zc,TT, hc0, len32T hk]
      refine hK _ _ ?_;clear hK K
      refine wC fun X Y hX hY => ?_
      simp only [↓DN,UP,DF,Qa,Qb,Qc,Qd,Qe,Qf,Qg,Qh,reduceCtorEq,↓reduceIte,Na,Nb,Nc,Nk,Nf,Ng,Nh,Za,Zb,Zc,TT, DB]
      refine hX ?_;clear hX hY X Y
      refine wS fun K hK => ?_
      simp only [↓DN,UP,DF,Qa,Qb,Qc,Qd,Qe,Qf,Qg,Qh,reduceCtorEq,↓reduceIte,Na,Nb,Nc,Nk,Nf,Ng,Nh,Za,Zb,Zc,TT]
      refine hK _ _ ?_;clear hK K
      refine awp_ret ?_
      try simp only [thenQ, blockQ]
      simp only [retQ, AEnds, aresL, ares, List.toList_toArray, ↓upd_same]; try simp only [UP,DF,Nc,↓reduceIte,DT]
      exact ⟨_, _, AV.weak_tup2 (AV.weak_nil) (AV.weak.refl _), AS.le.refl _, rfl, rfl⟩
    · refine wS fun K hK => ?_
      simp only [↓DN,UP,DF,Qa,Qb,Qc,Qd,Qe,Qf,Qg,Qh,reduceCtorEq,↓reduceIte,Na,Nb,Nc,Nk,Nf,Ng,Nh,Za,Zb,Zc,TT, hc0, len32 hk, len48T ht]
      refine hK _ _ ?_;clear hK K
      refine wC fun X Y hX hY => ?_
      simp only [↓DN,UP,DF,Qa,Qb,Qc,Qd,Qe,Qf,Qg,Qh,reduceCtorEq,↓reduceIte,Na,Nb,Nc,Nk,Nf,Ng,Nh,Za,Zb,Zc,TT, DB]
      refine hX ?_;clear hX hY X Y
      refine wS fun K hK => ?_
      simp only [↓DN,UP,DF,Qa,Qb,Qc,Qd,Qe,Qf,Qg,Qh,reduceCtorEq,↓reduceIte,Na,Nb,Nc,Nk,Nf,Ng,Nh,Za,Zb,Zc,TT]
      refine hK _ _ ?_;clear hK K
      refine awp_ret ?_
      try simp only [thenQ, blockQ]
      simp only [retQ, AEnds, aresL, ares, List.toList_toArray, ↓upd_same]; try simp only [UP,DF,Nc,↓reduceIte,DT]
      exact ⟨_, _, AV.weak_tup2 (AV.weak_nil) (AV.weak.refl _), AS.le.refl _, rfl, rfl⟩
  · refine wS fun K hK => ?_
    simp only [↓DN,UP,DF,Qa,Qb,Qc,Qd,Qe,Qf,Qg,Qh,reduceCtorEq,↓reduceIte,Na,Nb,Nc,Nk,Nf,Ng,Nh,Za,Zb,Zc,TT]
    refine hK _ _ ?_;clear hK K
    refine wS fun K hK => ?_
    simp only [↓DN,UP,DF,Qa,Qb,Qc,Qd,Qe,Qf,Qg,Qh,reduceCtorEq,↓reduceIte,Na,Nb,Nc,Nk,Nf,Ng,Nh,Za,Zb,Zc,TT]
    refine acallk (context_bad g e hx s) ?_
    rintro r s1 ⟨rfl, rfl⟩
    simp only [↓AXq_nil,↓AXq_cons,pval,DX,Nat.reduceBEq,↓DN,UP,DF,Qa,Qb,Qc,Qd,Qe,Qf,Qg,Qh,reduceCtorEq,↓reduceIte,Na,Nb,Nc,Nk,Nf,Ng,Nh,Za,Zb,Zc,TT]
    refine hK _ _ ?_;clear hK K
    refine wK fun K hK => ?_
    refine wS fun K hK => ?_
    simp only [↓DN,UP,DF,Qa,Qb,Qc,Qd,Qe,Qf,Qg,Qh,reduceCtorEq,↓reduceIte,Na,Nb,Nc,Nk,Nf,Ng,Nh,Za,Zb,Zc,TT]
    refine hK _ _ ?_;clear hK K
    refine wC fun X Y hX hY => ?_
    simp only [↓DN,UP,DF,Qa,Qb,Qc,Qd,Qe,Qf,Qg,Qh,reduceCtorEq,↓reduceIte,Na,Nb,Nc,Nk,Nf,Ng,Nh,Za,Zb,Zc,TT, DB]
    refine hX ?_;clear hX hY X Y
    refine wS fun K hK => ?_
    simp only [↓DN,UP,DF,Qa,Qb,Qc,Qd,Qe,Qf,Qg,Qh,reduceCtorEq,↓reduceIte,Na,Nb,Nc,Nk,Nf,Ng,Nh,Za,Zb,Zc,TT]
    refine hK _ _ ?_;clear hK K
    refine awp_ret ?_
    try simp only [thenQ, blockQ]
    simp only [retQ, AEnds, aresL, ares, List.toList_toArray, ↓upd_same]; try simp only [UP,DF,Nc,↓reduceIte,DT]
    exact ⟨_, _, AV.weak_tup2 (AV.weak_nil) (AV.weak.refl _), AS.le.refl _, rfl, rfl⟩

set_option maxHeartbeats 1000000 in
theorem ref_unwrap_ok (key g t : List UInt8) (e : Nat) (hg : g.length ≤ 16) (he : e ≤ 1048576) (hk : key.length = 32) (ht : t.length = 48) (s : AS) :
    ACalls Tryz.prog Γ 101 [.v (.string ⟨key.toArray⟩), .v (.string ⟨g.toArray⟩), .v (.int .i64 e), .v (.string ⟨t.toArray⟩)] s (fun r s' => r = .tup [.v (.string ⟨(openedT (Vault.vk key) (Vault.vn key (Vault.ctx g e)) (Vault.ctx g e) t).toArray⟩), .v (.int .i64 ((openedE (Vault.vk key) (Vault.vn key (Vault.ctx g e)) (Vault.ctx g e) t : Nat) : Int))] ∧ s' = s) := by
  refine acalls_body Tryz.func101 rfl Tryz.ntmps101 Tryz.results101 (by simp) ?_
  have hi := fun s => refIs17_calls (Γ := Γ) g e s
  have hctx : ctxOk g e := ⟨hg, by omega, by omega⟩
  have hc := fun s => refContext17_calls (Γ := Γ) g e hg he s
  have hcl := ctx_len g e
  have hkl := vk_len key
  have hnl := vn_len key (Vault.ctx g e) (by omega)
  have h1 := fun s => refLabel_calls (Γ := Γ) key Vault.wrapW [] 48 (by omega) (by decide) s
  have h2 := fun s => refLabel_calls (Γ := Γ) key Vault.nonceW (Vault.ctx g e) 16 (by omega) (vn_fits _ (by omega)) s
  have hs := fun s => refOpen_calls (Γ := Γ) (Vault.vk key) (Vault.vn key (Vault.ctx g e)) (Vault.ctx g e) t hkl hnl (by omega) (by omega) s
  change ∀ s, ACalls _ _ _ _ s (fun r s' => r = .v (.string ⟨(Vault.vk key).toArray⟩) ∧ s' = s) at h1
  change ∀ s, ACalls _ _ _ _ s (fun r s' => r = .v (.string ⟨(Vault.vn key (Vault.ctx g e)).toArray⟩) ∧ s' = s) at h2
  generalize Vault.vn key (Vault.ctx g e) = n at *
  generalize Vault.ctx g e = c at *
  generalize Vault.vk key = k at *
  generalize openedT k n c t = z at *
  generalize openedE k n c t = y at *
  refine wS fun K hK => ?_
  simp only [↓DN,UP,DF,Qa,Qb,Qc,Qd,Qe,Qf,Qg,Qh,reduceCtorEq,↓reduceIte,Na,Nb,Nc,Nk,Nf,Ng,Nh,Za,Zb,Zc,TT]
  refine hK _ _ ?_;clear hK K
  refine wK fun K hK => ?_
  refine wS fun K hK => ?_
  simp only [↓DN,UP,DF,Qa,Qb,Qc,Qd,Qe,Qf,Qg,Qh,reduceCtorEq,↓reduceIte,Na,Nb,Nc,Nk,Nf,Ng,Nh,Za,Zb,Zc,TT]
  refine acallk (hi s) ?_
  rintro r s1 ⟨⟨b, rfl, hb⟩, rfl⟩
  obtain rfl : b = true := hb.2 hctx
  simp only [↓AXq_nil,↓AXq_cons,pval,DX,Nat.reduceBEq,↓DN,UP,DF,Qa,Qb,Qc,Qd,Qe,Qf,Qg,Qh,reduceCtorEq,↓reduceIte,Na,Nb,Nc,Nk,Nf,Ng,Nh,Za,Zb,Zc,TT, len32 hk, len48 ht]
  refine hK _ _ ?_;clear hK K
  refine wC fun X Y hX hY => ?_
  simp only [↓DN,UP,DF,Qa,Qb,Qc,Qd,Qe,Qf,Qg,Qh,reduceCtorEq,↓reduceIte,Na,Nb,Nc,Nk,Nf,Ng,Nh,Za,Zb,Zc,TT, DB]
  refine hY ?_;clear hX hY X Y
  refine awp_skip ?_
  refine hK _ _ ?_;clear hK K
  refine wS fun K hK => ?_
  simp only [↓DN,UP,DF,Qa,Qb,Qc,Qd,Qe,Qf,Qg,Qh,reduceCtorEq,↓reduceIte,Na,Nb,Nc,Nk,Nf,Ng,Nh,Za,Zb,Zc,TT]
  refine acallk (hc _) ?_
  rintro r s2 ⟨rfl, rfl⟩
  simp only [↓AXq_nil,↓AXq_cons,pval,DX,Nat.reduceBEq,↓DN,UP,DF,Qa,Qb,Qc,Qd,Qe,Qf,Qg,Qh,reduceCtorEq,↓reduceIte,Na,Nb,Nc,Nk,Nf,Ng,Nh,Za,Zb,Zc,TT]
  refine hK _ _ ?_;clear hK K
  refine wS fun K hK => ?_
  simp only [↓DN,UP,DF,Qa,Qb,Qc,Qd,Qe,Qf,Qg,Qh,reduceCtorEq,↓reduceIte,Na,Nb,Nc,Nk,Nf,Ng,Nh,Za,Zb,Zc,TT]
  refine acallk (h1 _) ?_
  rintro r s3 ⟨rfl, rfl⟩
  simp only [↓AXq_nil,↓AXq_cons,pval,DX,Nat.reduceBEq,↓DN,UP,DF,Qa,Qb,Qc,Qd,Qe,Qf,Qg,Qh,reduceCtorEq,↓reduceIte,Na,Nb,Nc,Nk,Nf,Ng,Nh,Za,Zb,Zc,TT]
  refine acallk (h2 _) ?_
  rintro r s4 ⟨rfl, rfl⟩
  simp only [↓AXq_nil,↓AXq_cons,pval,DX,Nat.reduceBEq,↓DN,UP,DF,Qa,Qb,Qc,Qd,Qe,Qf,Qg,Qh,reduceCtorEq,↓reduceIte,Na,Nb,Nc,Nk,Nf,Ng,Nh,Za,Zb,Zc,TT]
  refine acallk (hs _) ?_
  rintro r s5 ⟨rfl, rfl⟩
  simp only [↓AXq_nil,↓AXq_cons,pval,DX,Nat.reduceBEq,↓DN,UP,DF,Qa,Qb,Qc,Qd,Qe,Qf,Qg,Qh,reduceCtorEq,↓reduceIte,Na,Nb,Nc,Nk,Nf,Ng,Nh,Za,Zb,Zc,TT]
  refine hK _ _ ?_;clear hK K
  refine awp_ret ?_
  simp only [retQ, AEnds, aresL, ares, List.toList_toArray, ↓upd_same]; try simp only [UP,DF,Nc,↓reduceIte,DT]
  exact ⟨_, _, AV.weak.refl _, AS.le.refl _, rfl, rfl⟩

set_option maxHeartbeats 1000000 in
theorem ref_unwrap_bad (key g t : List UInt8) (e : Int) (h : ¬ (ctxOk g e ∧ key.length = 32 ∧ t.length = 48)) (s : AS) :
    ACalls Tryz.prog Γ 101 [.v (.string ⟨key.toArray⟩), .v (.string ⟨g.toArray⟩), .v (.int .i64 e), .v (.string ⟨t.toArray⟩)] s (fun r s' => r = .tup [.v (.string ⟨#[]⟩), .v (.int .i64 ((2 : Nat) : Int))] ∧ s' = s) := by
  refine acalls_body Tryz.func101 rfl Tryz.ntmps101 Tryz.results101 (by simp) ?_
  have hi := fun s => refIs17_calls (Γ := Γ) g e s
  have hgo : ¬ ctxOk g e ∨ (ctxOk g e ∧ key.length ≠ 32) ∨ (ctxOk g e ∧ key.length = 32 ∧ t.length ≠ 48) := by
    by_cases h0 : ctxOk g e
    · by_cases h1 : key.length = 32
      · exact Or.inr (Or.inr ⟨h0, h1, fun h2 => h ⟨h0, h1, h2⟩⟩)
      · exact Or.inr (Or.inl ⟨h0, h1⟩)
    · exact Or.inl h0
  refine wS fun K hK => ?_
  simp only [↓DN,UP,DF,Qa,Qb,Qc,Qd,Qe,Qf,Qg,Qh,reduceCtorEq,↓reduceIte,Na,Nb,Nc,Nk,Nf,Ng,Nh,Za,Zb,Zc,TT]
  refine hK _ _ ?_;clear hK K
  refine wK fun K hK => ?_
  refine wS fun K hK => ?_
  simp only [↓DN,UP,DF,Qa,Qb,Qc,Qd,Qe,Qf,Qg,Qh,reduceCtorEq,↓reduceIte,Na,Nb,Nc,Nk,Nf,Ng,Nh,Za,Zb,Zc,TT]
  refine acallk (hi s) ?_
  rintro r s1 ⟨⟨b, rfl, hb⟩, rfl⟩
  rcases hgo with h0 | ⟨h0, hk⟩ | ⟨h0, hk, ht⟩
  · obtain rfl : b = false := Bool.eq_false_iff.2 (fun q => h0 (hb.1 q))
    simp only [↓AXq_nil,↓AXq_cons,pval,DX,Nat.reduceBEq,↓DN,UP,DF,Qa,Qb,Qc,Qd,Qe,Qf,Qg,Qh,reduceCtorEq,↓reduceIte,Na,Nb,Nc,Nk,Nf,Ng,Nh,Za,Zb,Zc,TT]
    refine hK _ _ ?_;clear hK K
    refine wC fun X Y hX hY => ?_
    simp only [↓DN,UP,DF,Qa,Qb,Qc,Qd,Qe,Qf,Qg,Qh,reduceCtorEq,↓reduceIte,Na,Nb,Nc,Nk,Nf,Ng,Nh,Za,Zb,Zc,TT, DB]
    refine hX ?_;clear hX hY X Y
    refine wS fun K hK => ?_
    simp only [↓DN,UP,DF,Qa,Qb,Qc,Qd,Qe,Qf,Qg,Qh,reduceCtorEq,↓reduceIte,Na,Nb,Nc,Nk,Nf,Ng,Nh,Za,Zb,Zc,TT]
    refine hK _ _ ?_;clear hK K
    refine awp_ret ?_
    try simp only [thenQ, blockQ]
    simp only [retQ, AEnds, aresL, ares, List.toList_toArray, ↓upd_same]; try simp only [UP,DF,Nc,↓reduceIte,DT]
    exact ⟨_, _, AV.weak.refl _, AS.le.refl _, rfl, rfl⟩
  · obtain rfl : b = true := hb.2 h0
    simp only [↓AXq_nil,↓AXq_cons,pval,DX,Nat.reduceBEq,↓DN,UP,DF,Qa,Qb,Qc,Qd,Qe,Qf,Qg,Qh,reduceCtorEq,↓reduceIte,Na,Nb,Nc,Nk,Nf,Ng,Nh,Za,Zb,Zc,TT, len32T hk]
    refine hK _ _ ?_;clear hK K
    refine wC fun X Y hX hY => ?_
    simp only [↓DN,UP,DF,Qa,Qb,Qc,Qd,Qe,Qf,Qg,Qh,reduceCtorEq,↓reduceIte,Na,Nb,Nc,Nk,Nf,Ng,Nh,Za,Zb,Zc,TT, DB]
    refine hX ?_;clear hX hY X Y
    refine wS fun K hK => ?_
    simp only [↓DN,UP,DF,Qa,Qb,Qc,Qd,Qe,Qf,Qg,Qh,reduceCtorEq,↓reduceIte,Na,Nb,Nc,Nk,Nf,Ng,Nh,Za,Zb,Zc,TT]
    refine hK _ _ ?_;clear hK K
    refine awp_ret ?_
    try simp only [thenQ, blockQ]
    simp only [retQ, AEnds, aresL, ares, List.toList_toArray, ↓upd_same]; try simp only [UP,DF,Nc,↓reduceIte,DT]
    exact ⟨_, _, AV.weak.refl _, AS.le.refl _, rfl, rfl⟩
  · obtain rfl : b = true := hb.2 h0
    simp only [↓AXq_nil,↓AXq_cons,pval,DX,Nat.reduceBEq,↓DN,UP,DF,Qa,Qb,Qc,Qd,Qe,Qf,Qg,Qh,reduceCtorEq,↓reduceIte,Na,Nb,Nc,Nk,Nf,Ng,Nh,Za,Zb,Zc,TT, len32 hk, len48T ht]
    refine hK _ _ ?_;clear hK K
    refine wC fun X Y hX hY => ?_
    simp only [↓DN,UP,DF,Qa,Qb,Qc,Qd,Qe,Qf,Qg,Qh,reduceCtorEq,↓reduceIte,Na,Nb,Nc,Nk,Nf,Ng,Nh,Za,Zb,Zc,TT, DB]
    refine hX ?_;clear hX hY X Y
    refine wS fun K hK => ?_
    simp only [↓DN,UP,DF,Qa,Qb,Qc,Qd,Qe,Qf,Qg,Qh,reduceCtorEq,↓reduceIte,Na,Nb,Nc,Nk,Nf,Ng,Nh,Za,Zb,Zc,TT]
    refine hK _ _ ?_;clear hK K
    refine awp_ret ?_
    try simp only [thenQ, blockQ]
    simp only [retQ, AEnds, aresL, ares, List.toList_toArray, ↓upd_same]; try simp only [UP,DF,Nc,↓reduceIte,DT]
    exact ⟨_, _, AV.weak.refl _, AS.le.refl _, rfl, rfl⟩

end Go.Proofs.YtoagkleecgngdaaGreatDoor


