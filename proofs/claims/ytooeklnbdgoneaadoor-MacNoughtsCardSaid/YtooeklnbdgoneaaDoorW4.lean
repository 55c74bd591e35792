/- Contracts of the program's functions, each walked once; the conditions stand in each theorem. -/
import Derived.Test.YtooeklnbdgoneaaDoorAMp6
import Derived.Test.YtooeklnbdgoneaaDoorW3
import Derived.Test.YtooeklnbdgoneaaDoorRows
import Derived.Test.YtooeklnbdgoneaaDoorW1
import Derived.ProofKit
import Derived.LaidMore
import Derived.MakeChecks
import Derived.OpenShut
set_option linter.unusedSimpArgs false
set_option linter.unusedVariables false
open Nat renaming reduceLT → nLT, reduceLeDiff → nLE, reduceEqDiff → nEQ, reduceAdd → nAdd, reduceMul → nMul, reducePow → nPow, reduceSub → nSub
open Int renaming reduceLT → zLT, reduceLE → zLE, reduceToNat → zNat
set_option autoImplicit false
namespace Go.Proofs.YtooeklnbdgoneaaDoor
open Go Go.AM Go.Proofs

theorem RMac212 : type_of% (And.intro (And.intro (And.intro (And.intro (And.intro @Tryd.underlying3 (And.intro T.c3 T.g3)) (And.intro (And.intro T.b3 T.z3) (And.intro @Tryd.underlying5 T.c5))) (And.intro (And.intro T.g5 (And.intro T.b5 T.z5)) (And.intro (And.intro @Tryd.underlying22 T.c22) (And.intro T.g22 T.b22)))) (And.intro (And.intro (And.intro T.z22 (And.intro T.s22 @Tryd.underlying77)) (And.intro (And.intro T.c77 T.g77) (And.intro T.b77 T.z77))) (And.intro (And.intro (And.intro T.s77 @Tryd.underlying79) (And.intro T.c79 T.g79)) (And.intro (And.intro T.b79 T.k44) (And.intro T.k45 T.k46))))) Tryd.ntmps12) :=
  (And.intro (And.intro (And.intro (And.intro (And.intro @Tryd.underlying3 (And.intro T.c3 T.g3)) (And.intro (And.intro T.b3 T.z3) (And.intro @Tryd.underlying5 T.c5))) (And.intro (And.intro T.g5 (And.intro T.b5 T.z5)) (And.intro (And.intro @Tryd.underlying22 T.c22) (And.intro T.g22 T.b22)))) (And.intro (And.intro (And.intro T.z22 (And.intro T.s22 @Tryd.underlying77)) (And.intro (And.intro T.c77 T.g77) (And.intro T.b77 T.z77))) (And.intro (And.intro (And.intro T.s77 @Tryd.underlying79) (And.intro T.c79 T.g79)) (And.intro (And.intro T.b79 T.k44) (And.intro T.k45 T.k46))))) Tryd.ntmps12)

variable {Γ : Nat → List AV}

theorem _root_.Go.AM.OutS.under {s s1 s2 : AS} {l : List UInt8} {r : AV} (h : OutS s1 l r s2) (hle : s.le s1) : OutS s l r s2 := by
  refine ⟨AS.le.trans hle h.1, ?_⟩
  rcases h.2 with h | ⟨t, e, h1, h2, h3⟩
  · exact .inl h
  · refine .inr ⟨t, e, ?_, h2, h3⟩
    cases hs : s.own t with
    | none => rfl
    | some g => rw [hle.own t g hs] at h1; cases h1

theorem z111 : zcells Tryd.prog 79 = some (List.replicate 64 (.v (.int .u8 0))) := by kernel_rfl

set_option maxHeartbeats 2000000 in
set_option maxRecDepth 100000 in
theorem macTag_calls (hG0 : Γ 0 = stC Sha.H0) (hG : Γ 1 = Sha.K.map wV) (key : List UInt8) (ls : List (List UInt8)) (sp : Sp) (hk : key.length ≤ 2 ^ 38) (hn : ls.length ≤ 2 ^ 38) (hl : ls.flatten.length ≤ 2 ^ 38) (s : AS) :
    ACalls Tryd.prog Γ 12 [bytesV key .any, .sl 1 ls.length (PartsB ls) sp] s (fun r s' => OutS s (Mac.tag key ls.flatten) r s') := by
  refine acalls_body Tryd.func12 rfl Tryd.ntmps12 Tryd.results12 (by simp) ?_
  refine awp_reg_seq ?_
  intro K hK
  simp only [↓DN, UP, DF, ashift, aconv, aindexAddr, aindex, aslice, abuiltin, AV.cells, AV.one, reduceCtorEq, ↓reduceIte, nLT, nLE, nEQ, nAdd, nMul, nPow, nSub, zLT, zLE, zNat, RMac212]
  refine hK _ _ ?_
  clear hK K
  refine awp_seq_k ?_
  intro K hK
  have hgo : ∀ (E1 : Env) (s1 : AS) (sp1 : Sp), E1 0 = .sl 1 (Mac.key key).length ((Mac.key key).map byteV) sp1 → E1 1 = .sl 1 ls.length (PartsB ls) sp → s.le s1 → K E1 s1 := by
    intro E1 s1 sp1 e0 e1 hle
    refine hK _ _ ?_
    clear hK K
    have hkl := Mac.key_le key
    generalize hkk : Mac.key key = kk at *
    refine awp_reg_seq ?_
    intro K hK
    simp only [↓DN, UP, DF, ashift, aconv, aindexAddr, aindex, aslice, abuiltin, AV.cells, AV.one, reduceCtorEq, ↓reduceIte, nLT, nLE, nEQ, nAdd, nMul, nPow, nSub, zLT, zLE, zNat, RMac212, z111]
    intro o ho
    refine hK _ _ ?_
    clear hK K
    have h0 : (0 : Int) ≤ ((64 : Nat) : Int) := by decide
    have htk : (kk.map byteV).take kk.length = kk.map byteV := List.take_of_length_le (by simp)
    have hmin : min kk.length 64 = kk.length := Nat.min_eq_left hkl
    have hfr : asetAll (List.replicate 64 (.v (.int .u8 0))) 0 (kk.map byteV) = (Mac.fill kk).map byteV := Mac.fill_front kk hkl
    refine awp_reg_seq ?_
    intro K hK
    simp only [↓DN, UP, DF, ashift, aconv, aindexAddr, aindex, aslice, abuiltin, AV.cells, AV.one, reduceCtorEq, ↓reduceIte, nLT, nLE, nEQ, nAdd, nMul, nPow, nSub, zLT, zLE, zNat, RMac212, e0, h0, Int.le_refl, ite_self, hmin, htk, hfr, List.length_replicate, hkl]
    refine hK _ _ ?_
    clear hK K
    have hfl := Mac.fill_len kk hkl
    have hfl0 : ((Mac.fill kk).map byteV).length = 64 := by rw [List.length_map, hfl]
    have htf : ((Mac.fill kk).map byteV).take 64 = (Mac.fill kk).map byteV := List.take_of_length_le (by omega)
    have rep2 : ∀ x : AV, List.replicate 2 x = [x, x] := fun _ => rfl
    generalize hb : Mac.fill kk = bl at *
    have ht1 := macTurned_calls (Γ := Γ) bl hfl 54
    have ht2 := macTurned_calls (Γ := Γ) bl hfl 92
    have tl1 : (Mac.turn 54 bl).length = 64 := by rw [Mac.turn_len, hfl]
    have tl2 : (Mac.turn 92 bl).length = 64 := by rw [Mac.turn_len, hfl]
    rw [show byteV 54 = .v (.int .u8 54) from rfl] at ht1
    rw [show byteV 92 = .v (.int .u8 92) from rfl] at ht2
    refine awp_reg_seq ?_
    intro K hK
    simp only [↓DN, UP, DF, ashift, aconv, aindexAddr, aindex, aslice, abuiltin, AV.cells, AV.one, reduceCtorEq, ↓reduceIte, nLT, nLE, nEQ, nAdd, nMul, nPow, nSub, zLT, zLE, zNat, RMac212, htf, hfl0, Nat.le_refl]
    refine acallk (ht1 _) ?_
    intro r s2 hout
    have hle2 : s.le s2 := (AS.le.trans hle (AS.le_set (AS.le.refl s1) ho _)).trans hout.1
    have ho2 : s2.objs o = some (bl.map byteV) := hout.1.objs _ _ (AS.set_objs_same _ _ _)
    have hw1 := hout.weak
    obtain ⟨t1, g1, rfl⟩ := outS_own hout (by rw [← List.length_pos_iff, tl1]; decide)
    clear hout
    simp only [↓AXq_nil, ↓AXq_cons, pval, DX, Nat.reduceBEq, ↓DN, UP, DF, ashift, aconv, aindexAddr, aindex, aslice, abuiltin, AV.cells, AV.one, reduceCtorEq, ↓reduceIte, nLT, nLE, nEQ, nAdd, nMul, nPow, nSub, zLT, zLE, zNat, RMac212, e1]
    refine acallk (concat_calls ls sp (by omega) (by omega) _) ?_
    intro r s3 hout
    have hle3 : s.le s3 := AS.le.trans hle2 hout.1
    have ho3 : s3.objs o = some (bl.map byteV) := hout.1.objs _ _ ho2
    have hw2 := hout.weak
    have hs1 := sum_calls (Γ := Γ) hG0 hG [Mac.turn 54 bl, ls.flatten] .new (by simp) (by simp only [List.flatten_cons, List.flatten_nil, List.append_nil, List.length_append, tl1]; omega) s3
    rw [show [Mac.turn 54 bl, ls.flatten].flatten = Mac.turn 54 bl ++ ls.flatten from by simp] at hs1
    have hin : Sha.sum (Mac.turn 54 bl ++ ls.flatten) = Mac.inner key ls.flatten := by rw [Mac.inner, hkk, hb]
    have htag : Sha.sum (Mac.turn 92 bl ++ Mac.inner key ls.flatten) = Mac.tag key ls.flatten := by rw [Mac.tag, hkk, hb]
    rw [hin] at hs1
    have hpost : ∀ (E2 : Env) (s4 : AS) (r : AV), E2 5 = .ptr o 0 → E2 6 = r → OutS s3 (Mac.inner key ls.flatten) r s4 → K E2 s4 := by
      intro E2 s4 r g5 g6 hout
      refine hK _ _ ?_
      clear hK K
      have hle4 : s.le s4 := AS.le.trans hle3 hout.1
      have ho4 : s4.objs o = some (bl.map byteV) := hout.1.objs _ _ ho3
      have hw3 := hout.weak
      have hil := Mac.inner_len key ls.flatten
      obtain ⟨t3, g3, rfl⟩ := outS_own hout (by rw [← List.length_pos_iff, hil]; decide)
      clear hout
      refine awp_reg_seq ?_
      intro K hK
      simp only [↓DN, UP, DF, ashift, aconv, aindexAddr, aindex, aslice, abuiltin, AV.cells, AV.one, reduceCtorEq, ↓reduceIte, nLT, nLE, nEQ, nAdd, nMul, nPow, nSub, zLT, zLE, zNat, RMac212, g5, ho4, htf, hfl0, Nat.le_refl]
      refine acallk (ht2 _) ?_
      intro r s5 hout
      have hw4 := hout.weak
      have hle5 : s.le s5 := AS.le.trans hle4 hout.1
      obtain ⟨t4, g4, rfl⟩ := outS_own hout (by rw [← List.length_pos_iff, tl2]; decide)
      clear hout
      have hs2 := sum_calls (Γ := Γ) hG0 hG [Mac.turn 92 bl, Mac.inner key ls.flatten] .new (by simp) (by simp only [List.flatten_cons, List.flatten_nil, List.append_nil, List.length_append, tl2, hil]; omega) s5
      rw [show [Mac.turn 92 bl, Mac.inner key ls.flatten].flatten = Mac.turn 92 bl ++ Mac.inner key ls.flatten from by simp, htag] at hs2
      simp only [↓AXq_nil, ↓AXq_cons, pval, DX, Nat.reduceBEq, ↓DN, UP, DF, ashift, aconv, aindexAddr, aindex, aslice, abuiltin, AV.cells, AV.one, reduceCtorEq, ↓reduceIte, nLT, nLE, nEQ, nAdd, nMul, nPow, nSub, zLT, zLE, zNat, RMac212, g6, rep2]
      refine acallk (ACalls.weaks (AVs.weak.cons (AV.weak_slc (AVs.weak.cons hw4 (AVs.weak.cons hw3 AVs.weak.nil))) AVs.weak.nil) hs2) ?_
      intro r s6 hout
      simp only [↓AXq_nil, ↓AXq_cons, pval, DX, Nat.reduceBEq, ↓DN, UP, DF, ashift, aconv, aindexAddr, aindex, aslice, abuiltin, AV.cells, AV.one, reduceCtorEq, ↓reduceIte, nLT, nLE, nEQ, nAdd, nMul, nPow, nSub, zLT, zLE, zNat, RMac212]
      refine hK _ _ ?_
      clear hK K
      refine awp_ret ?_
      simp only [retQ, AEnds, aresL, ares, List.toList_toArray, ↓upd_same]; try simp only [↓DN, UP, DF, ashift, aconv, aindexAddr, aindex, aslice, abuiltin, AV.cells, AV.one, reduceCtorEq, ↓reduceIte, nLT, nLE, nEQ, nAdd, nMul, nPow, nSub, zLT, zLE, zNat, RMac212, DT]
      exact ⟨_, _, AV.weak.refl _, AS.le.refl _, hout.under hle5⟩
    rcases hout.2 with ⟨_, rfl⟩ | ⟨t2, g2, _, _, rfl⟩
    all_goals
      simp only [↓AXq_nil, ↓AXq_cons, pval, DX, Nat.reduceBEq, ↓DN, UP, DF, ashift, aconv, aindexAddr, aindex, aslice, abuiltin, AV.cells, AV.one, reduceCtorEq, ↓reduceIte, nLT, nLE, nEQ, nAdd, nMul, nPow, nSub, zLT, zLE, zNat, RMac212, rep2]
      refine acallk (ACalls.weaks (AVs.weak.cons (AV.weak_slc (AVs.weak.cons hw1 (AVs.weak.cons hw2 AVs.weak.nil))) AVs.weak.nil) hs1) ?_
      intro r s4 hout
      simp only [↓AXq_nil, ↓AXq_cons, pval, DX, Nat.reduceBEq, ↓DN, UP, DF, ashift, aconv, aindexAddr, aindex, aslice, abuiltin, AV.cells, AV.one, reduceCtorEq, ↓reduceIte, nLT, nLE, nEQ, nAdd, nMul, nPow, nSub, zLT, zLE, zNat, RMac212]
      refine hpost _ _ r ?_ ?_ hout
      · simp only [upd, Nat.reduceEqDiff, ↓reduceIte]
      · simp only [upd, ↓reduceIte]
  by_cases hlong : 64 < key.length
  · have hkey : Mac.key key = Sha.sum key := by rw [Mac.key, if_pos hlong]
    rw [hkey] at hgo
    refine awp_reg_seq ?_
    intro K hK
    simp only [↓DN, UP, DF, ashift, aconv, aindexAddr, aindex, aslice, abuiltin, AV.cells, AV.one, reduceCtorEq, ↓reduceIte, nLT, nLE, nEQ, nAdd, nMul, nPow, nSub, zLT, zLE, zNat, RMac212, decide_eq_true (show (64 : Int) < (key.length : Int) by omega)]
    refine hK _ _ ?_
    clear hK K
    refine awp_cond_k ?_
    intro X Y hX hY
    simp only [↓DN, UP, DF, ashift, aconv, aindexAddr, aindex, aslice, abuiltin, AV.cells, AV.one, reduceCtorEq, ↓reduceIte, nLT, nLE, nEQ, nAdd, nMul, nPow, nSub, zLT, zLE, zNat, RMac212, DB]
    refine hX ?_
    clear hX hY X Y
    refine awp_reg_end ?_
    intro K hK
    simp only [↓DN, UP, DF, ashift, aconv, aindexAddr, aindex, aslice, abuiltin, AV.cells, AV.one, reduceCtorEq, ↓reduceIte, nLT, nLE, nEQ, nAdd, nMul, nPow, nSub, zLT, zLE, zNat, RMac212, List.replicate_one]
    have hs0 := sum_calls (Γ := Γ) hG0 hG [key] .new (by simp) (by simp; omega) s
    rw [show [key].flatten = key from by simp] at hs0
    refine acallk hs0 ?_
    intro r s1 hout
    obtain ⟨t, g, rfl⟩ := outS_own hout (by rw [← List.length_pos_iff, Sha.sum_length]; decide)
    simp only [↓AXq_nil, ↓AXq_cons, pval, DX, Nat.reduceBEq, ↓DN, UP, DF, ashift, aconv, aindexAddr, aindex, aslice, abuiltin, AV.cells, AV.one, reduceCtorEq, ↓reduceIte, nLT, nLE, nEQ, nAdd, nMul, nPow, nSub, zLT, zLE, zNat, RMac212]
    refine hK _ _ ?_
    clear hK K
    simp only [thenQ]
    refine hgo _ _ (.own t g) ?_ ?_ hout.1
    · simp only [upd, ↓reduceIte]
    · simp only [upd, initE, Nat.reduceEqDiff, ↓reduceIte, List.getD_cons_succ, List.getD_cons_zero]
  · have hkey : Mac.key key = key := by rw [Mac.key, if_neg hlong]
    rw [hkey] at hgo
    refine awp_reg_seq ?_
    intro K hK
    simp only [↓DN, UP, DF, ashift, aconv, aindexAddr, aindex, aslice, abuiltin, AV.cells, AV.one, reduceCtorEq, ↓reduceIte, nLT, nLE, nEQ, nAdd, nMul, nPow, nSub, zLT, zLE, zNat, RMac212, decide_eq_false (show ¬ (64 : Int) < (key.length : Int) by omega)]
    refine hK _ _ ?_
    clear hK K
    refine awp_cond_k ?_
    intro X Y hX hY
    simp only [↓DN, UP, DF, ashift, aconv, aindexAddr, aindex, aslice, abuiltin, AV.cells, AV.one, reduceCtorEq, ↓reduceIte, nLT, nLE, nEQ, nAdd, nMul, nPow, nSub, zLT, zLE, zNat, RMac212, DB]
    refine hY ?_
    clear hX hY X Y
    refine awp_skip ?_
    simp only [thenQ]
    refine hgo _ _ .any ?_ ?_ (AS.le.refl s)
    · simp only [upd, initE, Nat.reduceEqDiff, ↓reduceIte, List.getD_cons_succ, List.getD_cons_zero, bytesV]
    · simp only [upd, initE, Nat.reduceEqDiff, ↓reduceIte, List.getD_cons_succ, List.getD_cons_zero]

end Go.Proofs.YtooeklnbdgoneaaDoor


set_option autoImplicit false
namespace Go.Proofs.YtooeklnbdgoneaaDoor
open Go Go.AM Go.Proofs

theorem RMac411 : type_of% (And.intro (And.intro (And.intro (And.intro (And.intro @Tryd.underlying5 (And.intro T.c5 T.g5)) (And.intro T.b5 (And.intro T.z5 @Tryd.underlying9))) (And.intro (And.intro T.c9 (And.intro T.g9 T.b9)) (And.intro T.z9 (And.intro @Tryd.underlying22 T.c22)))) (And.intro (And.intro (And.intro T.g22 (And.intro T.b22 T.z22)) (And.intro T.s22 (And.intro @Tryd.underlying77 T.c77))) (And.intro (And.intro T.g77 (And.intro T.b77 T.z77)) (And.intro T.s77 (And.intro T.k43 T.k12))))) Tryd.ntmps11) :=
  (And.intro (And.intro (And.intro (And.intro (And.intro @Tryd.underlying5 (And.intro T.c5 T.g5)) (And.intro T.b5 (And.intro T.z5 @Tryd.underlying9))) (And.intro (And.intro T.c9 (And.intro T.g9 T.b9)) (And.intro T.z9 (And.intro @Tryd.underlying22 T.c22)))) (And.intro (And.intro (And.intro T.g22 (And.intro T.b22 T.z22)) (And.intro T.s22 (And.intro @Tryd.underlying77 T.c77))) (And.intro (And.intro T.g77 (And.intro T.b77 T.z77)) (And.intro T.s77 (And.intro T.k43 T.k12))))) Tryd.ntmps11)

variable {Γ : Nat → List AV}



def jefe : List UInt8 := [74, 101, 102, 101]
def nothing : List UInt8 := [119, 104, 97, 116, 32, 100, 111, 32, 121, 97, 32, 119, 97, 110, 116, 32, 102, 111, 114, 32, 110, 111, 116, 104, 105, 110, 103, 63]
theorem jefe_hex : hexB (Mac.tag jefe nothing) = [53, 98, 100, 99, 99, 49, 52, 54, 98, 102, 54, 48, 55, 53, 52, 101, 54, 97, 48, 52, 50, 52, 50, 54, 48, 56, 57, 53, 55, 53, 99, 55, 53, 97, 48, 48, 51, 102, 48, 56, 57, 100, 50, 55, 51, 57, 56, 51, 57, 100, 101, 99, 53, 56, 98, 57, 54, 52, 101, 99, 51, 56, 52, 51] := by decide +kernel
theorem rep28 (x : AV) : List.replicate 28 x = [x, x, x, x, x, x, x, x, x, x, x, x, x, x, x, x, x, x, x, x, x, x, x, x, x, x, x, x] := rfl
theorem mrep4 (x : AV) : List.replicate 4 x = [x, x, x, x] := rfl

set_option maxHeartbeats 2000000 in
theorem awake03_calls (hG0 : Γ 0 = stC Sha.H0) (hG : Γ 1 = Sha.K.map wV) (s : AS) :
    ACalls Tryd.prog Γ 11 [] s (fun r s' => r = .v (.bool true) ∧ s' = s) := by
  refine acalls_body Tryd.func11 rfl Tryd.ntmps11 Tryd.results11 (by simp) ?_
  refine awp_reg_seq ?_
  intro K hK
  simp only [↓DN, UP, DF, ashift, aconv, aindexAddr, aindex, aslice, abuiltin, AV.cells, AV.one, reduceCtorEq, ↓reduceIte, nLT, nLE, nEQ, nAdd, nMul, nPow, nSub, zLT, zLE, zNat, RMac411]
  refine hK _ _ ?_
  clear hK K
  refine awp_reg_seq ?_
  intro K hK
  simp only [↓DN, UP, DF, ashift, aconv, aindexAddr, aindex, aslice, abuiltin, AV.cells, AV.one, reduceCtorEq, ↓reduceIte, nLT, nLE, nEQ, nAdd, nMul, nPow, nSub, zLT, zLE, zNat, RMac411, List.replicate_one, Nat.lt_irrefl, mrep4, rep28]
  refine acallk (ACalls.weaks (.cons (AV.weak_any (sp := .new)) (.cons (AV.weak_slc (.cons (AV.weak_any (sp := .new)) .nil)) .nil)) (macTag_calls hG0 hG jefe [nothing] .new (by decide) (by decide) (by decide) s)) ?_
  intro r s1 hout
  rw [show [nothing].flatten = nothing from rfl] at hout
  have htl := Mac.tag_len jefe nothing
  obtain ⟨t, e, rfl⟩ := outS_own hout (by rw [← List.length_pos_iff, htl]; decide)
  simp only [↓AXq_nil, ↓AXq_cons, pval, DX, Nat.reduceBEq, ↓DN, UP, DF, ashift, aconv, aindexAddr, aindex, aslice, abuiltin, AV.cells, AV.one, reduceCtorEq, ↓reduceIte, nLT, nLE, nEQ, nAdd, nMul, nPow, nSub, zLT, zLE, zNat, RMac411]
  refine acallk (hex_calls _ (by rw [htl]; decide) _) ?_
  rintro r s2 ⟨rfl, rfl⟩
  simp only [↓AXq_nil, ↓AXq_cons, pval, DX, Nat.reduceBEq, ↓DN, UP, DF, ashift, aconv, aindexAddr, aindex, aslice, abuiltin, AV.cells, AV.one, reduceCtorEq, ↓reduceIte, nLT, nLE, nEQ, nAdd, nMul, nPow, nSub, zLT, zLE, zNat, RMac411, jefe_hex]
  refine hK _ _ ?_
  clear hK K
  refine awp_ret ?_
  simp only [retQ, AEnds, aresL, ares, List.toList_toArray, ↓upd_same]; try simp only [↓DN, UP, DF, ashift, aconv, aindexAddr, aindex, aslice, abuiltin, AV.cells, AV.one, reduceCtorEq, ↓reduceIte, nLT, nLE, nEQ, nAdd, nMul, nPow, nSub, zLT, zLE, zNat, RMac411, DT]
  exact ⟨_, s, AV.weak.refl _, hout.1, by simp, rfl⟩

end Go.Proofs.YtooeklnbdgoneaaDoor


set_option autoImplicit false
namespace Go.AM
namespace Mac
theorem key_digest (k : List UInt8) (h : 64 < k.length) : key (Sha.sum k) = key k := by
  unfold key
  rw [if_pos h, if_neg (by rw [Sha.sum_length]; decide)]
theorem tag_digest (k l : List UInt8) (h : 64 < k.length) : tag (Sha.sum k) l = tag k l := by
  unfold tag inner
  rw [key_digest k h]
theorem fill_more (k : List UInt8) (n : Nat) (h : k.length + n ≤ 64) : fill (key (k ++ List.replicate n 0)) = fill (key k) := by
  unfold key fill
  rw [if_neg (by simp; omega), if_neg (by omega)]
  simp only [List.append_assoc, List.length_append, List.length_replicate]
  congr 1
  rw [List.replicate_append_replicate]
  congr 1
  omega
theorem tag_more (k l : List UInt8) (n : Nat) (h : k.length + n ≤ 64) : tag (k ++ List.replicate n 0) l = tag k l := by
  unfold tag inner
  rw [fill_more k n h]
end Mac
end Go.AM


set_option autoImplicit false
namespace Go.Proofs.YtooeklnbdgoneaaDoor
open Go Go.AM Go.Proofs

theorem RMac63 : type_of% (And.intro (And.intro (And.intro (And.intro (And.intro (And.intro @Tryd.underlying3 T.c3) (And.intro T.g3 T.b3)) (And.intro (And.intro T.z3 @Tryd.underlying4) (And.intro T.c4 T.g4))) (And.intro (And.intro (And.intro T.b4 T.z4) (And.intro @Tryd.underlying5 T.c5)) (And.intro (And.intro T.g5 T.b5) (And.intro T.z5 (And.intro @Tryd.underlying9 T.c9))))) (And.intro (And.intro (And.intro (And.intro T.g9 T.b9) (And.intro T.z9 @Tryd.underlying22)) (And.intro (And.intro T.c22 T.g22) (And.intro T.b22 (And.intro T.z22 T.s22)))) (And.intro (And.intro (And.intro @Tryd.underlying77 T.c77) (And.intro T.g77 T.b77)) (And.intro (And.intro T.z77 T.s77) (And.intro T.k11 (And.intro T.k12 T.k13)))))) Tryd.ntmps3) :=
  (And.intro (And.intro (And.intro (And.intro (And.intro (And.intro @Tryd.underlying3 T.c3) (And.intro T.g3 T.b3)) (And.intro (And.intro T.z3 @Tryd.underlying4) (And.intro T.c4 T.g4))) (And.intro (And.intro (And.intro T.b4 T.z4) (And.intro @Tryd.underlying5 T.c5)) (And.intro (And.intro T.g5 T.b5) (And.intro T.z5 (And.intro @Tryd.underlying9 T.c9))))) (And.intro (And.intro (And.intro (And.intro T.g9 T.b9) (And.intro T.z9 @Tryd.underlying22)) (And.intro (And.intro T.c22 T.g22) (And.intro T.b22 (And.intro T.z22 T.s22)))) (And.intro (And.intro (And.intro @Tryd.underlying77 T.c77) (And.intro T.g77 T.b77)) (And.intro (And.intro T.z77 T.s77) (And.intro T.k11 (And.intro T.k12 T.k13)))))) Tryd.ntmps3)

variable {Γ : Nat → List AV}


set_option maxHeartbeats 4000000 in
set_option maxRecDepth 100000 in
theorem macNoughts_calls (hG0 : Γ 0 = stC Sha.H0) (hG : Γ 1 = Sha.K.map wV) (key b : List UInt8) (n : Nat) (hn : n < 256) (s : AS) :
    ACalls Tryd.prog Γ 3 [bytesV key .any, bytesV b .any, .v (.int .u8 n)] s (fun r s' => r = .v (.bool true)) := by
  refine acalls_body Tryd.func3 rfl Tryd.ntmps3 Tryd.results3 (by simp) ?_
  refine awp_reg_seq ?_
  intro K hK
  simp only [↓DN, UP, DF, ashift, aconv, aindexAddr, aindex, aslice, abuiltin, AV.cells, AV.one, reduceCtorEq, ↓reduceIte, nLT, nLE, nEQ, nAdd, nMul, nPow, nSub, zLT, zLE, zNat, RMac63]
  refine hK _ _ ?_
  clear hK K
  refine awp_seq_k ?_
  intro K hK
  refine awp_reg_seq ?_
  intro K hK
  simp only [↓DN, UP, DF, ashift, aconv, aindexAddr, aindex, aslice, abuiltin, AV.cells, AV.one, reduceCtorEq, ↓reduceIte, nLT, nLE, nEQ, nAdd, nMul, nPow, nSub, zLT, zLE, zNat, RMac63]
  refine acallk (awake03_calls hG0 hG _) ?_
  rintro r s1 ⟨rfl, rfl⟩
  by_cases hbig : 200 < key.length ∨ 300 < b.length
  · by_cases h1 : 200 < key.length
    · simp only [↓AXq_nil, ↓AXq_cons, pval, DX, Nat.reduceBEq, ↓DN, UP, DF, ashift, aconv, aindexAddr, aindex, aslice, abuiltin, AV.cells, AV.one, reduceCtorEq, ↓reduceIte, nLT, nLE, nEQ, nAdd, nMul, nPow, nSub, zLT, zLE, zNat, RMac63, decide_eq_true (show (200 : Int) < (key.length : Int) by omega)]
      refine hK _ _ ?_
      clear hK K
      refine awp_cond_k ?_
      intro X Y hX hY
      simp only [↓DN, UP, DF, ashift, aconv, aindexAddr, aindex, aslice, abuiltin, AV.cells, AV.one, reduceCtorEq, ↓reduceIte, nLT, nLE, nEQ, nAdd, nMul, nPow, nSub, zLT, zLE, zNat, RMac63, DB]
      refine hX ?_
      clear hX hY X Y
      refine awp_reg_seq ?_
      intro K hK
      simp only [↓DN, UP, DF, ashift, aconv, aindexAddr, aindex, aslice, abuiltin, AV.cells, AV.one, reduceCtorEq, ↓reduceIte, nLT, nLE, nEQ, nAdd, nMul, nPow, nSub, zLT, zLE, zNat, RMac63]
      refine acallk (awake03_calls hG0 hG _) ?_
      rintro r s2 ⟨rfl, rfl⟩
      simp only [↓AXq_nil, ↓AXq_cons, pval, DX, Nat.reduceBEq, ↓DN, UP, DF, ashift, aconv, aindexAddr, aindex, aslice, abuiltin, AV.cells, AV.one, reduceCtorEq, ↓reduceIte, nLT, nLE, nEQ, nAdd, nMul, nPow, nSub, zLT, zLE, zNat, RMac63]
      refine hK _ _ ?_
      clear hK K
      refine awp_ret ?_
      simp only [retQ, AEnds, aresL, ares, List.toList_toArray, ↓upd_same]; try simp only [↓DN, UP, DF, ashift, aconv, aindexAddr, aindex, aslice, abuiltin, AV.cells, AV.one, reduceCtorEq, ↓reduceIte, nLT, nLE, nEQ, nAdd, nMul, nPow, nSub, zLT, zLE, zNat, RMac63, DT]
      exact ⟨_, _, AV.weak.refl _, AS.le.refl _, rfl⟩
    · simp only [↓AXq_nil, ↓AXq_cons, pval, DX, Nat.reduceBEq, ↓DN, UP, DF, ashift, aconv, aindexAddr, aindex, aslice, abuiltin, AV.cells, AV.one, reduceCtorEq, ↓reduceIte, nLT, nLE, nEQ, nAdd, nMul, nPow, nSub, zLT, zLE, zNat, RMac63, decide_eq_false (show ¬ (200 : Int) < (key.length : Int) by omega), decide_eq_true (show (300 : Int) < (b.length : Int) by omega)]
      refine hK _ _ ?_
      clear hK K
      refine awp_cond_k ?_
      intro X Y hX hY
      simp only [↓DN, UP, DF, ashift, aconv, aindexAddr, aindex, aslice, abuiltin, AV.cells, AV.one, reduceCtorEq, ↓reduceIte, nLT, nLE, nEQ, nAdd, nMul, nPow, nSub, zLT, zLE, zNat, RMac63, DB]
      refine hX ?_
      clear hX hY X Y
      refine awp_reg_seq ?_
      intro K hK
      simp only [↓DN, UP, DF, ashift, aconv, aindexAddr, aindex, aslice, abuiltin, AV.cells, AV.one, reduceCtorEq, ↓reduceIte, nLT, nLE, nEQ, nAdd, nMul, nPow, nSub, zLT, zLE, zNat, RMac63]
      refine acallk (awake03_calls hG0 hG _) ?_
      rintro r s2 ⟨rfl, rfl⟩
      simp only [↓AXq_nil, ↓AXq_cons, pval, DX, Nat.reduceBEq, ↓DN, UP, DF, ashift, aconv, aindexAddr, aindex, aslice, abuiltin, AV.cells, AV.one, reduceCtorEq, ↓reduceIte, nLT, nLE, nEQ, nAdd, nMul, nPow, nSub, zLT, zLE, zNat, RMac63]
      refine hK _ _ ?_
      clear hK K
      refine awp_ret ?_
      simp only [retQ, AEnds, aresL, ares, List.toList_toArray, ↓upd_same]; try simp only [↓DN, UP, DF, ashift, aconv, aindexAddr, aindex, aslice, abuiltin, AV.cells, AV.one, reduceCtorEq, ↓reduceIte, nLT, nLE, nEQ, nAdd, nMul, nPow, nSub, zLT, zLE, zNat, RMac63, DT]
      exact ⟨_, _, AV.weak.refl _, AS.le.refl _, rfl⟩
  · simp only [↓AXq_nil, ↓AXq_cons, pval, DX, Nat.reduceBEq, ↓DN, UP, DF, ashift, aconv, aindexAddr, aindex, aslice, abuiltin, AV.cells, AV.one, reduceCtorEq, ↓reduceIte, nLT, nLE, nEQ, nAdd, nMul, nPow, nSub, zLT, zLE, zNat, RMac63, decide_eq_false (show ¬ (200 : Int) < (key.length : Int) by omega), decide_eq_false (show ¬ (300 : Int) < (b.length : Int) by omega)]
    refine hK _ _ ?_
    clear hK K
    refine awp_cond_k ?_
    intro X Y hX hY
    simp only [↓DN, UP, DF, ashift, aconv, aindexAddr, aindex, aslice, abuiltin, AV.cells, AV.one, reduceCtorEq, ↓reduceIte, nLT, nLE, nEQ, nAdd, nMul, nPow, nSub, zLT, zLE, zNat, RMac63, DB]
    refine hY ?_
    clear hX hY X Y
    refine awp_skip ?_
    refine hK _ _ ?_
    clear hK K
    have hrep1 : ∀ x : AV, List.replicate 1 x = [x] := fun _ => rfl
    have hm := fun s => macTag_calls (Γ := Γ) hG0 hG key [b] .new (by omega) (by simp) (by simp; omega) s
    rw [show [b].flatten = b from by simp] at hm
    have htl := Mac.tag_len key b
    refine awp_reg_seq ?_
    intro K hK
    simp only [↓DN, UP, DF, ashift, aconv, aindexAddr, aindex, aslice, abuiltin, AV.cells, AV.one, reduceCtorEq, ↓reduceIte, nLT, nLE, nEQ, nAdd, nMul, nPow, nSub, zLT, zLE, zNat, RMac63, hrep1]
    refine acallk (hm _) ?_
    intro r s2 hout
    obtain ⟨t, e, rfl⟩ := outS_own hout (by rw [← List.length_pos_iff, htl]; decide)
    clear hout
    simp only [↓AXq_nil, ↓AXq_cons, pval, DX, Nat.reduceBEq, ↓DN, UP, DF, ashift, aconv, aindexAddr, aindex, aslice, abuiltin, AV.cells, AV.one, reduceCtorEq, ↓reduceIte, nLT, nLE, nEQ, nAdd, nMul, nPow, nSub, zLT, zLE, zNat, RMac63]
    refine hK _ _ ?_
    clear hK K
    refine awp_seq_k ?_
    intro K hK
    by_cases h64 : 64 < key.length
    · refine awp_reg_seq ?_
      intro K hK
      simp only [↓DN, UP, DF, ashift, aconv, aindexAddr, aindex, aslice, abuiltin, AV.cells, AV.one, reduceCtorEq, ↓reduceIte, nLT, nLE, nEQ, nAdd, nMul, nPow, nSub, zLT, zLE, zNat, RMac63, decide_eq_true (show (64 : Int) < (key.length : Int) by omega)]
      refine hK _ _ ?_
      clear hK K
      refine awp_cond_k ?_
      intro X Y hX hY
      simp only [↓DN, UP, DF, ashift, aconv, aindexAddr, aindex, aslice, abuiltin, AV.cells, AV.one, reduceCtorEq, ↓reduceIte, nLT, nLE, nEQ, nAdd, nMul, nPow, nSub, zLT, zLE, zNat, RMac63, DB]
      refine hX ?_
      clear hX hY X Y
      refine awp_reg_seq ?_
      intro K hK
      simp only [↓DN, UP, DF, ashift, aconv, aindexAddr, aindex, aslice, abuiltin, AV.cells, AV.one, reduceCtorEq, ↓reduceIte, nLT, nLE, nEQ, nAdd, nMul, nPow, nSub, zLT, zLE, zNat, RMac63]
      refine acallk (refSum_calls key (by omega) _) ?_
      rintro r s3 ⟨rfl, rfl⟩
      have hm2 := fun s => macTag_calls (Γ := Γ) hG0 hG (Sha.sum key) [b] .new (by rw [Sha.sum_length]; decide) (by simp) (by simp; omega) s
      rw [show [b].flatten = b from by simp, Mac.tag_digest key b h64] at hm2
      simp only [↓AXq_nil, ↓AXq_cons, pval, DX, Nat.reduceBEq, ↓DN, UP, DF, ashift, aconv, aindexAddr, aindex, aslice, abuiltin, AV.cells, AV.one, reduceCtorEq, ↓reduceIte, nLT, nLE, nEQ, nAdd, nMul, nPow, nSub, zLT, zLE, zNat, RMac63, hrep1]
      refine acallk (ACalls.weaks (AVs.weak.cons (AV.weak_any) (AVs.weak.refl _)) (hm2 _)) ?_
      intro r s4 hout4
      obtain ⟨t4, e4, rfl⟩ := outS_own hout4 (by rw [← List.length_pos_iff, htl]; decide)
      clear hout4
      simp only [↓AXq_nil, ↓AXq_cons, pval, DX, Nat.reduceBEq, ↓DN, UP, DF, ashift, aconv, aindexAddr, aindex, aslice, abuiltin, AV.cells, AV.one, reduceCtorEq, ↓reduceIte, nLT, nLE, nEQ, nAdd, nMul, nPow, nSub, zLT, zLE, zNat, RMac63]
      refine hK _ _ ?_
      clear hK K
      refine awp_ret ?_
      try simp only [thenQ, blockQ]
      simp only [retQ, AEnds, aresL, ares, List.toList_toArray, ↓upd_same]; try simp only [↓DN, UP, DF, ashift, aconv, aindexAddr, aindex, aslice, abuiltin, AV.cells, AV.one, reduceCtorEq, ↓reduceIte, nLT, nLE, nEQ, nAdd, nMul, nPow, nSub, zLT, zLE, zNat, RMac63, DT]
      exact ⟨_, _, AV.weak.refl _, AS.le.refl _, rfl⟩
    · refine awp_reg_seq ?_
      intro K hK
      simp only [↓DN, UP, DF, ashift, aconv, aindexAddr, aindex, aslice, abuiltin, AV.cells, AV.one, reduceCtorEq, ↓reduceIte, nLT, nLE, nEQ, nAdd, nMul, nPow, nSub, zLT, zLE, zNat, RMac63, decide_eq_false (show ¬ (64 : Int) < (key.length : Int) by omega)]
      refine hK _ _ ?_
      clear hK K
      refine awp_cond_k ?_
      intro X Y hX hY
      simp only [↓DN, UP, DF, ashift, aconv, aindexAddr, aindex, aslice, abuiltin, AV.cells, AV.one, reduceCtorEq, ↓reduceIte, nLT, nLE, nEQ, nAdd, nMul, nPow, nSub, zLT, zLE, zNat, RMac63, DB]
      refine hY ?_
      clear hX hY X Y
      refine awp_skip ?_
      refine hK _ _ ?_
      clear hK K
      have hi : irem (n : Int) (65 - (key.length : Int)) = ((n % (65 - key.length) : Nat) : Int) := by
        rw [show (65 : Int) - (key.length : Int) = ((65 - key.length : Nat) : Int) by omega]
        exact irem_u n (65 - key.length)
      have hs65 : isub .i64 65 (key.length : Int) = 65 - (key.length : Int) := isub_i64 (by omega)
      have hne : (65 : Int) - (key.length : Int) ≠ 0 := by omega
      have hcv : iconv .i64 (n : Int) = (n : Int) := i64_conv (by omega)
      generalize hE : (upd (upd (upd _ 27 _) 28 _) 29 _) = E0
      have e0 : E0 0 = .sl 1 key.length (key.map byteV) .any := by rw [← hE]; simp only [upd, initE]; rfl
      have e1 : E0 1 = .sl 1 b.length (b.map byteV) .any := by rw [← hE]; simp only [upd, initE]; rfl
      have e2 : E0 2 = .v (.int .u8 n) := by rw [← hE]; simp only [upd, initE]; rfl
      have e7 : E0 7 = .v (.string ⟨(Mac.tag key b).toArray⟩) := by rw [← hE]; simp only [upd, initE]; rfl
      clear hE
      have hm0 : n % (65 - key.length) ≤ 64 - key.length := by have := Nat.mod_lt n (show 0 < 65 - key.length by omega); omega
      generalize n % (65 - key.length) = m at *
      have hm3 := fun s => macTag_calls (Γ := Γ) hG0 hG (key ++ List.replicate m 0) [b] .new (by simp; omega) (by simp) (by simp; omega) s
      rw [show [b].flatten = b from by simp, Mac.tag_more key b m (by omega)] at hm3
      have hkl : (key ++ List.replicate m (0 : UInt8)).length = key.length + m := by simp
      have hkm : (key ++ List.replicate m (0 : UInt8)).map byteV = key.map byteV ++ List.replicate m (byteV 0) := by simp
      generalize key ++ List.replicate m (0 : UInt8) = kz at *
      have happ : ∀ (sp : Sp) (s3 : AS) (K' : AV → AS → Prop), (sp = .new ∨ ∃ t, sp = .own t 0 ∧ s3.own t = some 0) → (∀ sp' s4, K' (.sl 1 (key.length + m) (key.map byteV ++ List.replicate m (byteV 0)) sp') s4) →
          amade Tryd.prog 5 3 (.sl 1 key.length (key.map byteV) sp) (.v (.int .i64 m)) s3 K' := by
        intro sp s3 K' hsp hK'
        refine ⟨m, 9, .i64, 1, key.length, key.map byteV, sp, rfl, rfl, Tryd.underlying3, Tryd.underlying9, T.z5, T.c5, T.b5, by omega, by omega, ?_⟩
        unfold aappend
        by_cases h0 : m = 0
        · subst h0
          simp only [if_true]
          have := hK' sp s3
          simpa using this
        · have hall : (List.replicate m (byteV 0)).all AV.one = true := by
            rw [List.all_eq_true]
            intro x hx
            rw [(List.mem_replicate.1 hx).2]
            rfl
          rcases hsp with rfl | ⟨t, rfl, ht⟩
          · simp only [if_neg h0]
            refine ⟨T.c5.symm, by rw [T.b5]; omega, by omega, hall, fun t _ => hK' _ _⟩
          · simp only [if_neg h0]
            exact ⟨T.c5.symm, by rw [T.b5]; omega, by omega, hall, ht, hK' _ _⟩
      refine awp_drw_seq T.mixed [2, 9] (by kernel_rfl) ?_
      intro K hK
      simp only [↓AXq_nil, ↓AXq_cons, pval, DX, Nat.reduceBEq, ↓DN, UP, DF, ashift, aconv, aindexAddr, aindex, aslice, abuiltin, AV.cells, AV.one, reduceCtorEq, ↓reduceIte, nLT, nLE, nEQ, nAdd, nMul, nPow, nSub, zLT, zLE, zNat, RMac63, e0, e1, e2, e7, hs65, hi, hcv, hne]
      have hgo : ∀ (E : Env) (sp : Sp) (s3 : AS), E 8 = .sl 1 (key.length + m) (key.map byteV ++ List.replicate m (byteV 0)) sp → E 7 = .v (.string ⟨(Mac.tag key b).toArray⟩) → E 1 = .sl 1 b.length (b.map byteV) .any → K E s3 := by
        intro E sp s3 h8 h7 h1
        refine hK _ _ ?_
        clear hK K happ
        simp only [thenQ]
        rw [← hkl, ← hkm] at h8
        refine awp_reg_seq ?_
        intro K hK
        simp only [↓DN, UP, DF, ashift, aconv, aindexAddr, aindex, aslice, abuiltin, AV.cells, AV.one, reduceCtorEq, ↓reduceIte, nLT, nLE, nEQ, nAdd, nMul, nPow, nSub, zLT, zLE, zNat, RMac63, h8, h1, hrep1]
        refine acallk (ACalls.weaks (AVs.weak.cons (AV.weak_any) (AVs.weak.refl _)) (hm3 _)) ?_
        intro r s4 hout4
        obtain ⟨t4, e4, rfl⟩ := outS_own hout4 (by rw [← List.length_pos_iff, htl]; decide)
        clear hout4
        simp only [↓AXq_nil, ↓AXq_cons, pval, DX, Nat.reduceBEq, ↓DN, UP, DF, ashift, aconv, aindexAddr, aindex, aslice, abuiltin, AV.cells, AV.one, reduceCtorEq, ↓reduceIte, nLT, nLE, nEQ, nAdd, nMul, nPow, nSub, zLT, zLE, zNat, RMac63, h7, htl]
        refine hK _ _ ?_
        clear hK K
        refine awp_ret ?_
        simp only [retQ, AEnds, aresL, ares, List.toList_toArray, ↓upd_same]; try simp only [↓DN, UP, DF, ashift, aconv, aindexAddr, aindex, aslice, abuiltin, AV.cells, AV.one, reduceCtorEq, ↓reduceIte, nLT, nLE, nEQ, nAdd, nMul, nPow, nSub, zLT, zLE, zNat, RMac63, DT]
        exact ⟨_, _, AV.weak.refl _, AS.le.refl _, rfl⟩
      split
      · rename_i h0
        obtain rfl : key = [] := List.eq_nil_of_length_eq_zero h0
        exact happ .new _ _ (Or.inl rfl) (fun sp' s4 => hgo _ sp' s4 (by simp only [upd, ↓reduceIte]) (by simp only [upd, Nat.reduceEqDiff, ↓reduceIte, e7]) (by simp only [upd, Nat.reduceEqDiff, ↓reduceIte, e1]))
      · refine ⟨by omega, by omega, fun t ht => ?_⟩
        exact happ (.own t 0) _ _ (Or.inr ⟨t, rfl, by simp [AS.gain]⟩) (fun sp' s4 => hgo _ sp' s4 (by simp only [upd, ↓reduceIte]) (by simp only [upd, Nat.reduceEqDiff, ↓reduceIte, e7]) (by simp only [upd, Nat.reduceEqDiff, ↓reduceIte, e1]))

end Go.Proofs.YtooeklnbdgoneaaDoor


set_option autoImplicit false
namespace Go.Proofs.YtooeklnbdgoneaaDoor
open Go Go.AM Go.Proofs



/-- The given tables, as words. -/
def Γd (g : Nat) : List AV := if g = 0 then [wV Sha.H0.a, wV Sha.H0.b, wV Sha.H0.c, wV Sha.H0.d, wV Sha.H0.e, wV Sha.H0.f, wV Sha.H0.g, wV Sha.H0.h] else if g = 1 then Sha.K.map wV else []
abbrev laidD : List (String × DataW Unit) := [("engrosser/sha.rounds", Rows.laid_engrosser_sha_rounds), ("engrosser/sha.start", Rows.laid_engrosser_sha_start)]

theorem ints_of_trod {H : Type} {enc : TypeId × Value → H} {P : Program} {W : World} {base : Nat} {sp : Nat → Bool} {held : Bool} {fuel : Nat} {t e : TypeId} {n : Nat} {cs : List Value} {p : List MemPlace} {l : List Nat}
    (hT : P.underlying t = some (.array n e)) (he : P.underlying e = some (.int .u32)) (hc : P.cellsOf e = 1)
    (h : DataW.trod enc P W base sp held fuel t cs = some (.agg (l.map fun (x : Nat) => .lit (.int .u32 (x : Int))), p)) : ∀ (i x : Nat), l[i]? = some x → cs[i]? = some (.int .u32 (x : Int)) := by
  obtain ⟨xs, m, rfl, hx, hlen, hn, hel⟩ := DataW.trod_array hT h
  simp only [Prod.mk.injEq, DataW.agg.injEq] at hx
  intro i x hi
  have h1 : (l.map fun (x : Nat) => DataW.lit (H := H) (.int .u32 (x : Int)))[i]? = some (.lit (.int .u32 (x : Int))) := by rw [List.getElem?_map, hi]; rfl
  rw [hx.1, List.getElem?_map] at h1
  cases hy : xs[i]? with
  | none => rw [hy] at h1; cases h1
  | some y =>
    rw [hy] at h1
    simp only [Option.map_some, Option.some.injEq] at h1
    have hlt := (List.getElem?_eq_some_iff.1 hy).1
    have h2 := hel i (by omega)
    rw [hy, hc, Nat.mul_one] at h2
    obtain ⟨k, e1, e2, _⟩ := DataW.trod_int he h2
    rw [e2] at h1
    simp only [DataW.lit.injEq, Lit.int.injEq, true_and] at h1
    have h3 : (List.take 1 (List.drop i cs))[0]? = some (.int .u32 k) := by rw [e1]; rfl
    rw [List.getElem?_take, if_pos (by decide), List.getElem?_drop, Nat.add_zero, h1] at h3
    exact h3

theorem gRounds : Tryd.prog.globalNamed "engrosser/sha.rounds" = some 1 := by kernel_rfl
theorem gStart : Tryd.prog.globalNamed "engrosser/sha.start" = some 0 := by kernel_rfl
theorem tRounds : (Tryd.prog.globals[1]?).map (·.type) = some 133 := by kernel_rfl
theorem tStart : (Tryd.prog.globals[0]?).map (·.type) = some 114 := by kernel_rfl

theorem words_at {W : World} {g : Nat} {cs : Array Value} {l : List Nat} (hc : ∀ i, W.cell? ⟨g, i, none⟩ = cs[i]?) (h : ∀ (i x : Nat), l[i]? = some x → cs.toList[i]? = some (.int .u32 (x : Int))) :
    ∃ vs, VRels (G0 W) (l.map wV) vs ∧ RoAt (G0 W) g 0 vs := by
  refine ⟨l.map fun (x : Nat) => .int .u32 (x : Int), ?_, ?_⟩
  · have := VRels.vals (G := G0 W) (l.map fun (x : Nat) => Value.int .u32 (x : Int))
    rwa [List.map_map] at this
  · intro j u hu
    rw [List.getElem?_map] at hu
    cases hj : l[j]? with
    | none => rw [hj] at hu; cases hu
    | some x =>
      rw [hj] at hu
      simp only [Option.map_some, Option.some.injEq] at hu
      have := h j x hj
      show W.cell? ⟨g, 0 + j, none⟩ = some u
      rw [Nat.zero_add, hc j, ← hu]
      simpa using this

/-- What the condition gives the walks: the two tables' cells. -/
theorem of_laid {W : World} (h : laidMetH Tryd.prog laidD W) : ∀ g, ∃ vs, VRels (G0 W) (Γd g) vs ∧ RoAt (G0 W) g 0 vs := by
  rw [MakeChecks.laidMetH_plain _ _ _ (by kernel_rfl)] at h
  obtain ⟨ps, ⟨g0, t0, cs0, f0, p0, q0, hg0, ht0, hv0, hd0, ⟨g1, t1, cs1, f1, p1, q1, hg1, ht1, hv1, hd1, _, _⟩, _⟩, _, _⟩ := h
  obtain rfl := Option.some.inj (gRounds.symm.trans hg0)
  obtain rfl := Option.some.inj (gStart.symm.trans hg1)
  obtain rfl := Option.some.inj (tRounds.symm.trans ht0)
  obtain rfl := Option.some.inj (tStart.symm.trans ht1)
  have h1 := words_at (World.var?_cell hg0 hv0) (ints_of_trod (l := Sha.K) Tryd.underlying133 Tryd.underlying81 T.c81 hd0)
  have h0 := words_at (World.var?_cell hg1 hv1) (ints_of_trod (l := Sha.H0.list) Tryd.underlying114 Tryd.underlying81 T.c81 hd1)
  intro g
  by_cases e0 : g = 0
  · subst e0; exact h0
  · by_cases e1 : g = 1
    · subst e1; exact h1
    · refine ⟨[], ?_, fun j u h => by simp at h⟩
      simp [Γd, e0, e1, VRels]

/-- The door's own heap meets the condition. -/
theorem door_met (os : Os) (args : Array Value) : laidMetH Tryd.prog laidD ((World.doorLaid Tryd.prog 400 os).forCall (fun _ _ => 0) ⟨#[], args, []⟩).memory := by
  rw [MakeChecks.laidMetH_plain _ _ _ (by kernel_rfl)]
  exact laidMet_of_run' 8 (by kernel_rfl) (by kernel_rfl)

end Go.Proofs.YtooeklnbdgoneaaDoor


set_option autoImplicit false
namespace Go.Proofs.YtooeklnbdgoneaaDoor
/-! ### The words of the translation's head, read once -/
set_option maxRecDepth 100000
def signs : List Char := [Char.ofNat 104, Char.ofNat 97, Char.ofNat 114, Char.ofNat 110, Char.ofNat 101, Char.ofNat 115, Char.ofNat 115, Char.ofNat 32, Char.ofNat 52, Char.ofNat 99, Char.ofNat 100, Char.ofNat 54, Char.ofNat 101, Char.ofNat 102, Char.ofNat 48, Char.ofNat 101, Char.ofNat 99, Char.ofNat 55, Char.ofNat 97, Char.ofNat 56, Char.ofNat 56, Char.ofNat 100, Char.ofNat 49, Char.ofNat 57, Char.ofNat 102, Char.ofNat 100, Char.ofNat 55, Char.ofNat 97, Char.ofNat 100, Char.ofNat 53, Char.ofNat 51, Char.ofNat 97, Char.ofNat 51, Char.ofNat 49, Char.ofNat 100, Char.ofNat 99, Char.ofNat 48, Char.ofNat 50, Char.ofNat 51, Char.ofNat 48, Char.ofNat 98, Char.ofNat 56, Char.ofNat 51, Char.ofNat 102, Char.ofNat 98, Char.ofNat 50, Char.ofNat 55, Char.ofNat 100, Char.ofNat 101, Char.ofNat 100, Char.ofNat 50, Char.ofNat 55, Char.ofNat 53, Char.ofNat 56, Char.ofNat 100, Char.ofNat 49, Char.ofNat 49, Char.ofNat 48, Char.ofNat 99, Char.ofNat 100, Char.ofNat 102, Char.ofNat 53, Char.ofNat 98, Char.ofNat 57, Char.ofNat 50, Char.ofNat 54, Char.ofNat 54, Char.ofNat 57, Char.ofNat 52, Char.ofNat 100, Char.ofNat 98, Char.ofNat 57, Char.ofNat 32, Char.ofNat 99, Char.ofNat 117, Char.ofNat 116, Char.ofNat 32, Char.ofNat 97, Char.ofNat 116, Char.ofNat 32, Char.ofNat 101, Char.ofNat 110, Char.ofNat 103, Char.ofNat 114, Char.ofNat 111, Char.ofNat 115, Char.ofNat 115, Char.ofNat 101, Char.ofNat 114, Char.ofNat 47, Char.ofNat 101, Char.ofNat 110, Char.ofNat 103, Char.ofNat 114, Char.ofNat 111, Char.ofNat 115, Char.ofNat 115, Char.ofNat 101, Char.ofNat 114, Char.ofNat 108, Char.ofNat 97, Char.ofNat 119, Char.ofNat 48, Char.ofNat 51, Char.ofNat 46, Char.ofNat 77, Char.ofNat 97, Char.ofNat 99, Char.ofNat 78, Char.ofNat 111, Char.ofNat 117, Char.ofNat 103, Char.ofNat 104, Char.ofNat 116, Char.ofNat 115, Char.ofNat 32, Char.ofNat 101, Char.ofNat 110, Char.ofNat 103, Char.ofNat 114, Char.ofNat 111, Char.ofNat 115, Char.ofNat 115, Char.ofNat 101, Char.ofNat 114, Char.ofNat 47, Char.ofNat 101, Char.ofNat 110, Char.ofNat 103, Char.ofNat 114, Char.ofNat 111, Char.ofNat 115, Char.ofNat 115, Char.ofNat 101, Char.ofNat 114, Char.ofNat 108, Char.ofNat 97, Char.ofNat 119, Char.ofNat 49, Char.ofNat 55, Char.ofNat 46, Char.ofNat 86, Char.ofNat 97, Char.ofNat 117, Char.ofNat 108, Char.ofNat 116, Char.ofNat 87, Char.ofNat 114, Char.ofNat 97, Char.ofNat 112, Char.ofNat 115, Char.ofNat 32, Char.ofNat 101, Char.ofNat 110, Char.ofNat 103, Char.ofNat 114, Char.ofNat 111, Char.ofNat 115, Char.ofNat 115, Char.ofNat 101, Char.ofNat 114, Char.ofNat 47, Char.ofNat 101, Char.ofNat 110, Char.ofNat 103, Char.ofNat 114, Char.ofNat 111, Char.ofNat 115, Char.ofNat 115, Char.ofNat 101, Char.ofNat 114, Char.ofNat 108, Char.ofNat 97, Char.ofNat 119, Char.ofNat 49, Char.ofNat 55, Char.ofNat 46, Char.ofNat 86, Char.ofNat 97, Char.ofNat 117, Char.ofNat 108, Char.ofNat 116, Char.ofNat 85, Char.ofNat 110, Char.ofNat 119, Char.ofNat 114, Char.ofNat 97, Char.ofNat 112, Char.ofNat 115, Char.ofNat 32, Char.ofNat 101, Char.ofNat 110, Char.ofNat 103, Char.ofNat 114, Char.ofNat 111, Char.ofNat 115, Char.ofNat 115, Char.ofNat 101, Char.ofNat 114, Char.ofNat 47, Char.ofNat 101, Char.ofNat 110, Char.ofNat 103, Char.ofNat 114, Char.ofNat 111, Char.ofNat 115, Char.ofNat 115, Char.ofNat 101, Char.ofNat 114, Char.ofNat 108, Char.ofNat 97, Char.ofNat 119, Char.ofNat 49, Char.ofNat 55, Char.ofNat 46, Char.ofNat 86, Char.ofNat 97, Char.ofNat 117, Char.ofNat 108, Char.ofNat 116, Char.ofNat 67, Char.ofNat 111, Char.ofNat 110, Char.ofNat 116, Char.ofNat 101, Char.ofNat 120, Char.ofNat 116, Char.ofNat 115, Char.ofNat 32, Char.ofNat 101, Char.ofNat 110, Char.ofNat 103, Char.ofNat 114, Char.ofNat 111, Char.ofNat 115, Char.ofNat 115, Char.ofNat 101, Char.ofNat 114, Char.ofNat 47, Char.ofNat 101, Char.ofNat 110, Char.ofNat 103, Char.ofNat 114, Char.ofNat 111, Char.ofNat 115, Char.ofNat 115, Char.ofNat 101, Char.ofNat 114, Char.ofNat 108, Char.ofNat 97, Char.ofNat 119, Char.ofNat 48, Char.ofNat 56, Char.ofNat 46, Char.ofNat 72, Char.ofNat 112, Char.ofNat 107, Char.ofNat 101, Char.ofNat 83, Char.ofNat 101, Char.ofNat 97, Char.ofNat 108, Char.ofNat 115, Char.ofNat 32, Char.ofNat 101, Char.ofNat 110, Char.ofNat 103, Char.ofNat 114, Char.ofNat 111, Char.ofNat 115, Char.ofNat 115, Char.ofNat 101, Char.ofNat 114, Char.ofNat 47, Char.ofNat 101, Char.ofNat 110, Char.ofNat 103, Char.ofNat 114, Char.ofNat 111, Char.ofNat 115, Char.ofNat 115, Char.ofNat 101, Char.ofNat 114, Char.ofNat 108, Char.ofNat 97, Char.ofNat 119, Char.ofNat 48, Char.ofNat 56, Char.ofNat 46, Char.ofNat 72, Char.ofNat 112, Char.ofNat 107, Char.ofNat 101, Char.ofNat 79, Char.ofNat 112, Char.ofNat 101, Char.ofNat 110, Char.ofNat 115, Char.ofNat 32, Char.ofNat 101, Char.ofNat 110, Char.ofNat 103, Char.ofNat 114, Char.ofNat 111, Char.ofNat 115, Char.ofNat 115, Char.ofNat 101, Char.ofNat 114, Char.ofNat 47, Char.ofNat 101, Char.ofNat 110, Char.ofNat 103, Char.ofNat 114, Char.ofNat 111, Char.ofNat 115, Char.ofNat 115, Char.ofNat 101, Char.ofNat 114, Char.ofNat 108, Char.ofNat 97, Char.ofNat 119, Char.ofNat 48, Char.ofNat 56, Char.ofNat 46, Char.ofNat 72, Char.ofNat 112, Char.ofNat 107, Char.ofNat 101, Char.ofNat 66, Char.ofNat 97, Char.ofNat 99, Char.ofNat 107, Char.ofNat 32, Char.ofNat 101, Char.ofNat 110, Char.ofNat 103, Char.ofNat 114, Char.ofNat 111, Char.ofNat 115, Char.ofNat 115, Char.ofNat 101, Char.ofNat 114, Char.ofNat 47, Char.ofNat 101, Char.ofNat 110, Char.ofNat 103, Char.ofNat 114, Char.ofNat 111, Char.ofNat 115, Char.ofNat 115, Char.ofNat 101, Char.ofNat 114, Char.ofNat 108, Char.ofNat 97, Char.ofNat 119, Char.ofNat 48, Char.ofNat 56, Char.ofNat 46, Char.ofNat 72, Char.ofNat 112, Char.ofNat 107, Char.ofNat 101, Char.ofNat 82, Char.ofNat 101, Char.ofNat 97, Char.ofNat 100, Char.ofNat 115]
def headWords : List (List Char) := [[Char.ofNat 104, Char.ofNat 97, Char.ofNat 114, Char.ofNat 110, Char.ofNat 101, Char.ofNat 115, Char.ofNat 115],
  [Char.ofNat 52, Char.ofNat 99, Char.ofNat 100, Char.ofNat 54, Char.ofNat 101, Char.ofNat 102, Char.ofNat 48, Char.ofNat 101, Char.ofNat 99, Char.ofNat 55, Char.ofNat 97, Char.ofNat 56, Char.ofNat 56, Char.ofNat 100, Char.ofNat 49, Char.ofNat 57, Char.ofNat 102, Char.ofNat 100, Char.ofNat 55, Char.ofNat 97, Char.ofNat 100, Char.ofNat 53, Char.ofNat 51, Char.ofNat 97, Char.ofNat 51, Char.ofNat 49, Char.ofNat 100, Char.ofNat 99, Char.ofNat 48, Char.ofNat 50, Char.ofNat 51, Char.ofNat 48, Char.ofNat 98, Char.ofNat 56, Char.ofNat 51, Char.ofNat 102, Char.ofNat 98, Char.ofNat 50, Char.ofNat 55, Char.ofNat 100, Char.ofNat 101, Char.ofNat 100, Char.ofNat 50, Char.ofNat 55, Char.ofNat 53, Char.ofNat 56, Char.ofNat 100, Char.ofNat 49, Char.ofNat 49, Char.ofNat 48, Char.ofNat 99, Char.ofNat 100, Char.ofNat 102, Char.ofNat 53, Char.ofNat 98, Char.ofNat 57, Char.ofNat 50, Char.ofNat 54, Char.ofNat 54, Char.ofNat 57, Char.ofNat 52, Char.ofNat 100, Char.ofNat 98, Char.ofNat 57],
  [Char.ofNat 99, Char.ofNat 117, Char.ofNat 116],
  [Char.ofNat 97, Char.ofNat 116],
  [Char.ofNat 101, Char.ofNat 110, Char.ofNat 103, Char.ofNat 114, Char.ofNat 111, Char.ofNat 115, Char.ofNat 115, Char.ofNat 101, Char.ofNat 114, Char.ofNat 47, Char.ofNat 101, Char.ofNat 110, Char.ofNat 103, Char.ofNat 114, Char.ofNat 111, Char.ofNat 115, Char.ofNat 115, Char.ofNat 101, Char.ofNat 114, Char.ofNat 108, Char.ofNat 97, Char.ofNat 119, Char.ofNat 48, Char.ofNat 51, Char.ofNat 46, Char.ofNat 77, Char.ofNat 97, Char.ofNat 99, Char.ofNat 78, Char.ofNat 111, Char.ofNat 117, Char.ofNat 103, Char.ofNat 104, Char.ofNat 116, Char.ofNat 115],
  [Char.ofNat 101, Char.ofNat 110, Char.ofNat 103, Char.ofNat 114, Char.ofNat 111, Char.ofNat 115, Char.ofNat 115, Char.ofNat 101, Char.ofNat 114, Char.ofNat 47, Char.ofNat 101, Char.ofNat 110, Char.ofNat 103, Char.ofNat 114, Char.ofNat 111, Char.ofNat 115, Char.ofNat 115, Char.ofNat 101, Char.ofNat 114, Char.ofNat 108, Char.ofNat 97, Char.ofNat 119, Char.ofNat 49, Char.ofNat 55, Char.ofNat 46, Char.ofNat 86, Char.ofNat 97, Char.ofNat 117, Char.ofNat 108, Char.ofNat 116, Char.ofNat 87, Char.ofNat 114, Char.ofNat 97, Char.ofNat 112, Char.ofNat 115],
  [Char.ofNat 101, Char.ofNat 110, Char.ofNat 103, Char.ofNat 114, Char.ofNat 111, Char.ofNat 115, Char.ofNat 115, Char.ofNat 101, Char.ofNat 114, Char.ofNat 47, Char.ofNat 101, Char.ofNat 110, Char.ofNat 103, Char.ofNat 114, Char.ofNat 111, Char.ofNat 115, Char.ofNat 115, Char.ofNat 101, Char.ofNat 114, Char.ofNat 108, Char.ofNat 97, Char.ofNat 119, Char.ofNat 49, Char.ofNat 55, Char.ofNat 46, Char.ofNat 86, Char.ofNat 97, Char.ofNat 117, Char.ofNat 108, Char.ofNat 116, Char.ofNat 85, Char.ofNat 110, Char.ofNat 119, Char.ofNat 114, Char.ofNat 97, Char.ofNat 112, Char.ofNat 115],
  [Char.ofNat 101, Char.ofNat 110, Char.ofNat 103, Char.ofNat 114, Char.ofNat 111, Char.ofNat 115, Char.ofNat 115, Char.ofNat 101, Char.ofNat 114, Char.ofNat 47, Char.ofNat 101, Char.ofNat 110, Char.ofNat 103, Char.ofNat 114, Char.ofNat 111, Char.ofNat 115, Char.ofNat 115, Char.ofNat 101, Char.ofNat 114, Char.ofNat 108, Char.ofNat 97, Char.ofNat 119, Char.ofNat 49, Char.ofNat 55, Char.ofNat 46, Char.ofNat 86, Char.ofNat 97, Char.ofNat 117, Char.ofNat 108, Char.ofNat 116, Char.ofNat 67, Char.ofNat 111, Char.ofNat 110, Char.ofNat 116, Char.ofNat 101, Char.ofNat 120, Char.ofNat 116, Char.ofNat 115],
  [Char.ofNat 101, Char.ofNat 110, Char.ofNat 103, Char.ofNat 114, Char.ofNat 111, Char.ofNat 115, Char.ofNat 115, Char.ofNat 101, Char.ofNat 114, Char.ofNat 47, Char.ofNat 101, Char.ofNat 110, Char.ofNat 103, Char.ofNat 114, Char.ofNat 111, Char.ofNat 115, Char.ofNat 115, Char.ofNat 101, Char.ofNat 114, Char.ofNat 108, Char.ofNat 97, Char.ofNat 119, Char.ofNat 48, Char.ofNat 56, Char.ofNat 46, Char.ofNat 72, Char.ofNat 112, Char.ofNat 107, Char.ofNat 101, Char.ofNat 83, Char.ofNat 101, Char.ofNat 97, Char.ofNat 108, Char.ofNat 115],
  [Char.ofNat 101, Char.ofNat 110, Char.ofNat 103, Char.ofNat 114, Char.ofNat 111, Char.ofNat 115, Char.ofNat 115, Char.ofNat 101, Char.ofNat 114, Char.ofNat 47, Char.ofNat 101, Char.ofNat 110, Char.ofNat 103, Char.ofNat 114, Char.ofNat 111, Char.ofNat 115, Char.ofNat 115, Char.ofNat 101, Char.ofNat 114, Char.ofNat 108, Char.ofNat 97, Char.ofNat 119, Char.ofNat 48, Char.ofNat 56, Char.ofNat 46, Char.ofNat 72, Char.ofNat 112, Char.ofNat 107, Char.ofNat 101, Char.ofNat 79, Char.ofNat 112, Char.ofNat 101, Char.ofNat 110, Char.ofNat 115],
  [Char.ofNat 101, Char.ofNat 110, Char.ofNat 103, Char.ofNat 114, Char.ofNat 111, Char.ofNat 115, Char.ofNat 115, Char.ofNat 101, Char.ofNat 114, Char.ofNat 47, Char.ofNat 101, Char.ofNat 110, Char.ofNat 103, Char.ofNat 114, Char.ofNat 111, Char.ofNat 115, Char.ofNat 115, Char.ofNat 101, Char.ofNat 114, Char.ofNat 108, Char.ofNat 97, Char.ofNat 119, Char.ofNat 48, Char.ofNat 56, Char.ofNat 46, Char.ofNat 72, Char.ofNat 112, Char.ofNat 107, Char.ofNat 101, Char.ofNat 66, Char.ofNat 97, Char.ofNat 99, Char.ofNat 107],
  [Char.ofNat 101, Char.ofNat 110, Char.ofNat 103, Char.ofNat 114, Char.ofNat 111, Char.ofNat 115, Char.ofNat 115, Char.ofNat 101, Char.ofNat 114, Char.ofNat 47, Char.ofNat 101, Char.ofNat 110, Char.ofNat 103, Char.ofNat 114, Char.ofNat 111, Char.ofNat 115, Char.ofNat 115, Char.ofNat 101, Char.ofNat 114, Char.ofNat 108, Char.ofNat 97, Char.ofNat 119, Char.ofNat 48, Char.ofNat 56, Char.ofNat 46, Char.ofNat 72, Char.ofNat 112, Char.ofNat 107, Char.ofNat 101, Char.ofNat 82, Char.ofNat 101, Char.ofNat 97, Char.ofNat 100, Char.ofNat 115]]
theorem initS : Tryd.prog.initOrder = String.ofList signs := by kernel_rfl
theorem words : wordsSigns Tryd.prog.initOrder.toList = headWords := by
  rw [initS, String.toList_ofList]
  kernel_rfl
theorem both {a b : Bool} (h : a = true) (k : b = true) : (a && b) = true := by rw [h, k]; rfl
theorem same_of {a b : Bool} (h : b = a) : (a == b) = true := by rw [h]; cases a <;> rfl
theorem make_of {a b : Option Make} (h : a = b) : (a == b) = true := by rw [h]; exact beq_self_eq_true _
theorem strip_cut (r : List (List Char)) : stripLifts liftWords ("cut".toList :: r) = ([], "cut".toList :: r) := by kernel_rfl
theorem lifts_cut {P : Program} {r} (h : behindMainWord (wordsSigns P.initOrder.toList) = "cut".toList :: r) : P.headLifts = [] := by
  unfold Program.headLifts
  rw [h, strip_cut]
  kernel_rfl
theorem make_cut {P : Program} {r} (h : behindMainWord (wordsSigns P.initOrder.toList) = "cut".toList :: r) : P.make = some .cut := by
  unfold Program.make
  rw [h, lifts_cut h]
  kernel_rfl
theorem final_cut {P : Program} {r} (h : behindMainWord (wordsSigns P.initOrder.toList) = "cut".toList :: r) : P.liftsFinal = false := by
  unfold Program.liftsFinal
  rw [h, lifts_cut h]
  kernel_rfl
theorem main_har {P : Program} {s r} (h : wordsSigns P.initOrder.toList = "harness".toList :: s :: r) (hs : isSumSigns s = true) : P.mainIs = some (true, s) := by
  unfold Program.mainIs
  rw [h]
  dsimp only
  rw [hs]
  kernel_rfl
theorem may_cut {P : Program} {r} (h : behindMainWord (wordsSigns P.initOrder.toList) = "cut".toList :: r) (hl : P.laysLater = false) (hr : P.bearsReflect = false) (hd : P.doorFits [] = true) : P.mayEnter = true := by
  unfold Program.mayEnter
  rw [h, hl, hr]
  dsimp only
  rw [strip_cut]
  dsimp only
  rw [hd]
  kernel_rfl
theorem behind : behindMainWord (wordsSigns Tryd.prog.initOrder.toList) = "cut".toList :: headWords.drop 3 := (congrArg behindMainWord words).trans (by kernel_rfl)
theorem headMake : Tryd.prog.make = some .cut := make_cut behind
theorem headMain : Tryd.prog.mainIs = some (true, "4cd6ef0ec7a88d19fd7ad53a31dc0230b83fb27ded2758d110cdf5b926694db9".toList) := main_har (r := headWords.drop 2) (words.trans (by kernel_rfl)) (by kernel_rfl)
theorem headMay : Tryd.prog.mayEnter = true := may_cut behind (by kernel_rfl) (by kernel_rfl) (by kernel_rfl)
theorem headFin : Tryd.prog.liftsFinal = false := final_cut behind
end Go.Proofs.YtooeklnbdgoneaaDoor


