/- Contracts of the program's functions, each walked once; the conditions stand in each theorem. -/
import Derived.Test.YtooeklnbdgoneaaDoorAMp6
import Derived.Test.YtooeklnbdgoneaaDoorW8
import Derived.Test.YtooeklnbdgoneaaDoorAMp3
set_option linter.unusedSimpArgs false
set_option linter.unusedVariables false
open Nat renaming reduceLT → nLT, reduceLeDiff → nLE, reduceEqDiff → nEQ, reduceAdd → nAdd, reduceMul → nMul, reducePow → nPow, reduceSub → nSub
open Int renaming reduceLT → zLT, reduceLE → zLE, reduceToNat → zNat
set_option autoImplicit false
namespace Go.Proofs.YtooeklnbdgoneaaDoor
open Go Go.AM Go.Proofs

theorem RAes13108 : type_of% (And.intro (And.intro (And.intro (And.intro @Tryd.underlying3 (And.intro T.c3 T.g3)) (And.intro T.b3 (And.intro T.z3 @Tryd.underlying140))) (And.intro (And.intro T.c140 (And.intro T.g140 T.b140)) (And.intro T.z140 (And.intro T.s140 T.k123)))) Tryd.ntmps108) :=
  (And.intro (And.intro (And.intro (And.intro @Tryd.underlying3 (And.intro T.c3 T.g3)) (And.intro T.b3 (And.intro T.z3 @Tryd.underlying140))) (And.intro (And.intro T.c140 (And.intro T.g140 T.b140)) (And.intro T.z140 (And.intro T.s140 T.k123)))) Tryd.ntmps108)

variable {Γ : Nat → List AV}

/-- What is turned into the word i's octet k. -/
def kc (key : List UInt8) (i k : Nat) : UInt8 :=
  if i % 4 = 0 then (if k = 0 then Aes.S (Aes.ak key (4 * i - 4 + 1)) ^^^ Aes.pwr (i / 4 - 1) else Aes.S (Aes.ak key (4 * i - 4 + (k + 1) % 4)))
  else Aes.ak key (4 * i - 4 + k)
theorem ak_word (key : List UInt8) (hk : key.length = 16) (i k : Nat) (h4 : 4 ≤ i) (hk4 : k < 4) : Aes.ak key (4 * i - 16 + k) ^^^ kc key i k = Aes.ak key (4 * i + k) := by
  obtain ⟨r, m, rfl, hm⟩ : ∃ r m, i = 4 * (r + 1) + m ∧ m < 4 := ⟨i / 4 - 1, i % 4, by omega, by omega⟩
  by_cases h0 : m = 0
  · subst h0
    have hl := Aes.ak_low hk r k hk4
    unfold kc
    rw [if_pos (by omega)]
    rw [show 4 * (4 * (r + 1) + 0) - 16 + k = 16 * r + k by omega, show 4 * (4 * (r + 1) + 0) + k = 16 * (r + 1) + k by omega, hl]
    by_cases hk0 : k = 0
    · subst hk0
      rw [if_pos rfl, if_pos rfl, show 4 * (4 * (r + 1) + 0) - 4 + 1 = 16 * r + (12 + (0 + 1) % 4) by omega, show (4 * (r + 1) + 0) / 4 - 1 = r by omega, UInt8.xor_assoc]
    · rw [if_neg hk0, if_neg hk0, show 4 * (4 * (r + 1) + 0) - 4 + (k + 1) % 4 = 16 * r + (12 + (k + 1) % 4) by omega]
  · have hl := Aes.ak_high hk r (4 * m + k) (by omega) (by omega)
    unfold kc
    rw [if_neg (by omega), show 4 * (4 * (r + 1) + m) - 16 + k = 16 * r + (4 * m + k) by omega, show 4 * (4 * (r + 1) + m) + k = 16 * (r + 1) + (4 * m + k) by omega, hl,
      show 4 * (4 * (r + 1) + m) - 4 + k = 16 * (r + 1) + (4 * m + k - 4) by omega]
theorem keys_get (key : List UInt8) (n : Nat) (h : n < 176) : (keysL key).getD n 0 = Aes.ak key n := Aes.range_get _ _ _ _ h
theorem keys_take_succ (key : List UInt8) (n : Nat) (h : n < 176) : intL ((keysL key).take (n + 1)) = intL ((keysL key).take n) ++ [nV (Aes.ak key n).toNat] := by
  have hl : n < (keysL key).length := by rw [keysL_len]; exact h
  have e := keys_get key n h
  rw [List.getD_eq_getElem?_getD, List.getElem?_eq_getElem hl] at e
  simp only [Option.getD_some] at e
  rw [List.take_succ_eq_append_getElem hl, e, intL, List.map_append]
  rfl
theorem keys_first (key : List UInt8) (hk : key.length = 16) : (keysL key).take 16 = key := by
  apply List.ext_getElem
  · simp [keysL_len, hk]
  · intro n h1 h2
    have hn : n < 16 := by omega
    rw [List.getElem_take]
    have e := keys_get key n (by omega)
    rw [Aes.ak_key n hn] at e
    simpa [List.getD_eq_getElem?_getD, List.getElem?_eq_getElem h2, List.getElem?_eq_getElem (show n < (keysL key).length by rw [keysL_len]; omega)] using e
theorem keys_word (key : List UInt8) (i : Nat) (h4 : 4 ≤ i) (hi : i < 44) : List.drop (4 * i - 4) (List.take (4 * i) (intL ((keysL key).take (4 * i)))) = [nV (Aes.ak key (4 * i - 4 + 0)).toNat, nV (Aes.ak key (4 * i - 4 + 1)).toNat, nV (Aes.ak key (4 * i - 4 + 2)).toNat, nV (Aes.ak key (4 * i - 4 + 3)).toNat] := by
  have hl : (intL ((keysL key).take (4 * i))).length = 4 * i := by rw [intL_len, List.length_take, keysL_len]; omega
  rw [List.take_of_length_le (by omega)]
  apply List.ext_getElem?
  intro n
  rw [List.getElem?_drop]
  by_cases hn : n < 4
  · have e : (intL ((keysL key).take (4 * i)))[4 * i - 4 + n]? = some (nV (Aes.ak key (4 * i - 4 + n)).toNat) := by
      have h1 : 4 * i - 4 + n < (keysL key).length := by rw [keysL_len]; omega
      have e := keys_get key (4 * i - 4 + n) (by omega)
      rw [List.getD_eq_getElem?_getD, List.getElem?_eq_getElem h1] at e
      simp only [Option.getD_some] at e
      rw [intL, List.getElem?_map, List.getElem?_take, if_pos (by omega), List.getElem?_eq_getElem h1, Option.map_some, e]
    rw [e]
    rcases (show n = 0 ∨ n = 1 ∨ n = 2 ∨ n = 3 by omega) with rfl | rfl | rfl | rfl <;> rfl
  · rw [List.getElem?_eq_none (by omega), List.getElem?_eq_none (by simp; omega)]
theorem rmul2_at (x : UInt8) : Aes.rmul x.toNat 2 = (Aes.dbl x).toNat := by
  have := Aes.rmul2 x.toNat x.toNat_lt
  rwa [UInt8.ofNat_toNat] at this
theorem nb_xor (a b : UInt8) : ixor .i64 (a.toNat : Int) (b.toNat : Int) = (((a ^^^ b).toNat : Nat) : Int) := by
  have ha := a.toNat_lt
  have hb := b.toNat_lt
  rw [n_xor _ _ (by omega) (by omega), UInt8.toNat_xor]

set_option maxHeartbeats 8000000 in
set_option maxRecDepth 100000 in
theorem refKeys_calls (key : List UInt8) (hk : key.length = 16) (s : AS) :
    ACalls Tryd.prog Γ 108 [.sl 1 16 (intL key) .any, .sl 1 256 (intL Aes.sb) .any] s (fun r s' => r = .sl 1 176 (intL (keysL key)) .any ∧ s' = s) := by
  refine acalls_body Tryd.func108 rfl Tryd.ntmps108 Tryd.results108 (by simp) ?_
  have hkl : (intL key).length = 16 := by rw [intL_len, hk]
  have hkone : (intL key).all AV.one = true := by rw [List.all_eq_true]; intro x hx; obtain ⟨n, _, rfl⟩ := List.mem_map.1 hx; rfl
  have hktk : List.take 16 (intL key) = intL key := List.take_of_length_le (by omega)
  have hk16 : intL ((keysL key).take (4 * 4)) = intL key := by rw [show 4 * 4 = 16 from rfl, keys_first key hk]
  rw [← hk16]
  rw [← hk16] at hkl hkone hktk
  generalize hW0 : intL ((keysL key).take (4 * 4)) = W0 at *
  refine awp_reg_seq ?_
  intro K hK
  simp only [↓DN, UP, DF, ashift, aconv, aindexAddr, aindex, aslice, abuiltin, AV.cells, AV.one, reduceCtorEq, ↓reduceIte, nLT, nLE, nEQ, nAdd, nMul, nPow, nSub, zLT, zLE, zNat, RAes13108]
  refine hK _ _ ?_
  clear hK K
  refine awp_reg_seq ?_
  intro K hK
  simp only [↓DN, UP, DF, ashift, aconv, aindexAddr, aindex, aslice, abuiltin, AV.cells, AV.one, reduceCtorEq, ↓reduceIte, nLT, nLE, nEQ, nAdd, nMul, nPow, nSub, zLT, zLE, zNat, RAes13108, hkl, hkone, hktk]
  intro t ht
  refine hK _ _ ?_
  clear hK K
  have hle0 : s.le (s.gain t 0) := AS.le_gain (AS.le.refl s) ht 0
  have hown0 : (s.gain t 0).own t = some 0 := AS.gain_own_same _ _ _
  generalize s.gain t 0 = s0 at *
  refine awp_reg_seq ?_
  intro K hK
  simp only [↓DN, UP, DF, ashift, aconv, aindexAddr, aindex, aslice, abuiltin, AV.cells, AV.one, reduceCtorEq, ↓reduceIte, nLT, nLE, nEQ, nAdd, nMul, nPow, nSub, zLT, zLE, zNat, RAes13108]
  refine hK _ _ ?_
  clear hK K
  refine awp_seq_k ?_
  intro K hK
  refine awp_reg_seq ?_
  intro K hK
  simp only [↓DN, UP, DF, ashift, aconv, aindexAddr, aindex, aslice, abuiltin, AV.cells, AV.one, reduceCtorEq, ↓reduceIte, nLT, nLE, nEQ, nAdd, nMul, nPow, nSub, zLT, zLE, zNat, RAes13108]
  refine hK _ _ ?_
  clear hK K
  refine awp_block ?_
  rw [← hW0]
  clear hW0 hkl hkone hktk hk16 W0
  refine awp_loop (fun E s1 => ∃ i g : Nat, 4 ≤ i ∧ i ≤ 44 ∧ E 1 = .sl 1 256 (intL Aes.sb) .any ∧ E 5 = .sl 1 (4 * i) (intL ((keysL key).take (4 * i))) (.own t g) ∧ E 6 = nV (Aes.pwr ((i + 3) / 4 - 1)).toNat ∧ E 7 = nV i ∧ s1.own t = some g ∧ s.le s1)
    (fun E _ => match E 7 with | .v (.int _ i) => 44 - i.toNat | _ => 0) ?_ ?_
  · exact ⟨4, 0, by omega, by omega, by simp only [upd, initE, Nat.reduceEqDiff, ↓reduceIte]; rfl, by simp only [upd, Nat.reduceEqDiff, ↓reduceIte], by simp only [upd, Nat.reduceEqDiff, ↓reduceIte]; rfl, by simp only [upd, ↓reduceIte]; rfl, hown0, hle0⟩
  · clear hown0 hle0
    rintro E1 s1 ⟨i, g, h4, hi, e1, e5, e6, e7, hown, hle⟩ -
    refine awp_seq_k ?_
    intro K2 hK2
    by_cases hi' : i < 44
    · refine awp_reg_seq ?_
      intro K hK
      simp only [↓DN, UP, DF, ashift, aconv, aindexAddr, aindex, aslice, abuiltin, AV.cells, AV.one, reduceCtorEq, ↓reduceIte, nLT, nLE, nEQ, nAdd, nMul, nPow, nSub, zLT, zLE, zNat, RAes13108, e7, decide_eq_true (show (i : Int) < 44 by omega)]
      refine hK _ _ ?_
      clear hK K
      refine awp_cond_k ?_
      intro X Y hX hY
      simp only [↓DN, UP, DF, ashift, aconv, aindexAddr, aindex, aslice, abuiltin, AV.cells, AV.one, reduceCtorEq, ↓reduceIte, nLT, nLE, nEQ, nAdd, nMul, nPow, nSub, zLT, zLE, zNat, RAes13108, DB]
      refine hX ?_
      clear hX hY X Y
      refine awp_skip ?_
      refine hK2 _ _ ?_
      clear hK2 K2
      refine awp_seq_k ?_
      intro K3 hK3
      refine awp_block ?_
      have hword := keys_word key i h4 hi'
      have hWl : (intL ((keysL key).take (4 * i))).length = 4 * i := by rw [intL_len, List.length_take, keysL_len]; omega
      generalize hW : intL ((keysL key).take (4 * i)) = W at *
      have a1 := i64_mul4n i (by omega)
      have a2 : isub .i64 ((4 * i : Nat) : Int) 4 = ((4 * i - 4 : Nat) : Int) := i64_sub (4 * i) 4 (by omega) (by omega)
      have m0 : (0 : Int) ≤ ((4 * i - 4 : Nat) : Int) := by omega
      have m1 : ((4 * i - 4 : Nat) : Int) ≤ ((4 * i : Nat) : Int) := by omega
      have m2 : ((4 * i : Nat) : Int) ≤ ((4 * i : Nat) : Int) := by omega
      have m3 : ¬ (((4 * i - 4 : Nat) : Int) = 0) := by omega
      have m4 : 4 * i - (4 * i - 4) = 4 := by omega
      refine awp_reg_seq ?_
      intro K hK
      simp only [↓DN, UP, DF, ashift, aconv, aindexAddr, aindex, aslice, abuiltin, AV.cells, AV.one, reduceCtorEq, ↓reduceIte, nLT, nLE, nEQ, nAdd, nMul, nPow, nSub, zLT, zLE, zNat, RAes13108, e5, e7, a1, a2, m0, m1, m2, m3, m4, hword]
      intro t8 ht8
      refine hK _ _ ?_
      clear hK K
      have n8 : t ≠ t8 := fun e => by rw [e, ht8] at hown; cases hown
      have hs8 : s.own t8 = none := by
        cases h : s.own t8 with
        | none => rfl
        | some cs => rw [hle.own _ _ h] at ht8; cases ht8
      have hown2 : (s1.gain t8 0).own t = some g := by rw [AS.gain_own_eq]; simp only [upd, if_neg n8]; exact hown
      have hle2 : s.le (s1.gain t8 0) := AS.le_gain hle hs8 0
      generalize s1.gain t8 0 = s2 at *
      clear hown hle ht8
      refine awp_seq_k ?_
      intro K4 hK4
      have hgo : ∀ (E2 : Env) (sp : Sp), E2 1 = .sl 1 256 (intL Aes.sb) .any → E2 5 = .sl 1 (4 * i) W (.own t g) → E2 6 = nV (Aes.pwr ((i + 1 + 3) / 4 - 1)).toNat → E2 7 = nV i →
          E2 8 = .sl 1 4 [nV (kc key i 0).toNat, nV (kc key i 1).toNat, nV (kc key i 2).toNat, nV (kc key i 3).toNat] sp → K4 E2 s2 := by
        intro E2 sp f1 f5 f6 f7 f8
        refine hK4 _ _ ?_
        clear hK4 K4
        refine awp_reg_seq ?_
        intro K hK
        simp only [↓DN, UP, DF, ashift, aconv, aindexAddr, aindex, aslice, abuiltin, AV.cells, AV.one, reduceCtorEq, ↓reduceIte, nLT, nLE, nEQ, nAdd, nMul, nPow, nSub, zLT, zLE, zNat, RAes13108]
        refine hK _ _ ?_
        clear hK K
        refine awp_block ?_
        rw [← hW] at f5
        clear hword hWl hW m4
        refine awp_loop (fun E s3 => ∃ k h : Nat, k ≤ 4 ∧ E 1 = .sl 1 256 (intL Aes.sb) .any ∧ E 5 = .sl 1 (4 * i + k) (intL ((keysL key).take (4 * i + k))) (.own t h) ∧ E 6 = nV (Aes.pwr ((i + 1 + 3) / 4 - 1)).toNat ∧ E 7 = nV i ∧ E 8 = .sl 1 4 [nV (kc key i 0).toNat, nV (kc key i 1).toNat, nV (kc key i 2).toNat, nV (kc key i 3).toNat] sp ∧ E 9 = nV k ∧ s3.own t = some h ∧ s.le s3)
          (fun E _ => match E 9 with | .v (.int _ i) => 4 - i.toNat | _ => 0) ?_ ?_
        · exact ⟨0, g, by omega, by simp only [upd, f1, Nat.reduceEqDiff, ↓reduceIte], by simp only [upd, f5, Nat.reduceEqDiff, ↓reduceIte]; rfl, by simp only [upd, f6, Nat.reduceEqDiff, ↓reduceIte], by simp only [upd, f7, Nat.reduceEqDiff, ↓reduceIte], by simp only [upd, f8, Nat.reduceEqDiff, ↓reduceIte], by simp only [upd, ↓reduceIte]; rfl, hown2, hle2⟩
        · clear hown2 hle2 f1 f5 f6 f7 f8
          rintro E3 s3 ⟨k, h, hk', f1, f5, f6, f7, f8, f9, hown2, hle2⟩ -
          refine awp_seq_k ?_
          intro K6 hK6
          by_cases hk4 : k < 4
          · refine awp_reg_seq ?_
            intro K hK
            simp only [↓DN, UP, DF, ashift, aconv, aindexAddr, aindex, aslice, abuiltin, AV.cells, AV.one, reduceCtorEq, ↓reduceIte, nLT, nLE, nEQ, nAdd, nMul, nPow, nSub, zLT, zLE, zNat, RAes13108, f9, decide_eq_true (show (k : Int) < 4 by omega)]
            refine hK _ _ ?_
            clear hK K
            refine awp_cond_k ?_
            intro X Y hX hY
            simp only [↓DN, UP, DF, ashift, aconv, aindexAddr, aindex, aslice, abuiltin, AV.cells, AV.one, reduceCtorEq, ↓reduceIte, nLT, nLE, nEQ, nAdd, nMul, nPow, nSub, zLT, zLE, zNat, RAes13108, DB]
            refine hX ?_
            clear hX hY X Y
            refine awp_skip ?_
            refine hK6 _ _ ?_
            clear hK6 K6
            refine awp_seq_k ?_
            intro K7 hK7
            refine awp_block ?_
            have hak := ak_word key hk i k h4 hk4
            have hsucc := keys_take_succ key (4 * i + k) (by omega)
            have b2 : isub .i64 ((4 * i : Nat) : Int) 16 = ((4 * i - 16 : Nat) : Int) := i64_sub (4 * i) 16 (by omega) (by omega)
            have b3 := i64_add (4 * i - 16) k (by omega)
            have hWl2 : (intL ((keysL key).take (4 * i + k))).length = 4 * i + k := by rw [intL_len, List.length_take, keysL_len]; omega
            have hgl : 4 * i - 16 + k < ((keysL key).take (4 * i + k)).length := by rw [List.length_take, keysL_len]; omega
            have hdw := intL_drop (l := (keysL key).take (4 * i + k)) (4 * i - 16 + k) hgl
            have hgk : ((keysL key).take (4 * i + k)).getD (4 * i - 16 + k) 0 = Aes.ak key (4 * i - 16 + k) := by
              rw [← keys_get key (4 * i - 16 + k) (by omega), List.getD_eq_getElem?_getD, List.getD_eq_getElem?_getD, List.getElem?_take, if_pos (by omega)]
            rw [hgk] at hdw
            have hdc : List.drop k [nV (kc key i 0).toNat, nV (kc key i 1).toNat, nV (kc key i 2).toNat, nV (kc key i 3).toNat] = nV (kc key i k).toNat :: List.drop (k + 1) [nV (kc key i 0).toNat, nV (kc key i 1).toNat, nV (kc key i 2).toNat, nV (kc key i 3).toNat] := by
              rcases (show k = 0 ∨ k = 1 ∨ k = 2 ∨ k = 3 by omega) with rfl | rfl | rfl | rfl <;> rfl
            have hone : (intL ((keysL key).take (4 * i + k))).all AV.one = true := by rw [List.all_eq_true]; intro x hx; obtain ⟨n, _, rfl⟩ := List.mem_map.1 hx; rfl
            generalize hD : [nV (kc key i 0).toNat, nV (kc key i 1).toNat, nV (kc key i 2).toNat, nV (kc key i 3).toNat] = D at *
            rw [← hak] at hsucc
            generalize hV' : intL ((keysL key).take (4 * i + k + 1)) = V' at *
            generalize hV : intL ((keysL key).take (4 * i + k)) = V at *
            generalize Aes.ak key (4 * i - 16 + k) = x at *
            generalize kc key i k = y at *
            have l0 : (0 : Int) ≤ ((4 * i - 16 + k : Nat) : Int) := by omega
            have l1 : ((4 * i - 16 + k : Nat) : Int) < ((4 * i + k : Nat) : Int) := by omega
            have l2 : (0 : Int) ≤ (k : Int) := by omega
            have l3 : (k : Int) < ((4 : Nat) : Int) := by omega
            have l4 : (4 * i + k + 1) * 8 ≤ 2 ^ 46 := by omega
            have l5 : 4 * i + k + 1 ≤ 2 ^ 46 := by omega
            refine awp_drw_end T.mixed [15] (by kernel_rfl) ?_
            intro K hK
            simp only [↓AXq_nil, ↓AXq_cons, pval, DX, Nat.reduceBEq, ↓DN, UP, DF, ashift, aconv, aindexAddr, aindex, aslice, abuiltin, AV.cells, AV.one, reduceCtorEq, ↓reduceIte, nLT, nLE, nEQ, nAdd, nMul, nPow, nSub, zLT, zLE, zNat, RAes13108, f5, f7, f8, f9, a1, b2, b3, l0, l1, l2, l3, hdw, hdc, nb_xor, List.replicate_one]
            refine ⟨by omega, by omega, hown2, hK _ _ ?_⟩
            clear hK K
            rw [← hsucc]
            simp only [blockQ, thenQ, if_true, if_false]
            refine hK7 _ _ ?_
            clear hK7 K7
            refine awp_reg_end ?_
            intro K hK
            simp only [↓DN, UP, DF, ashift, aconv, aindexAddr, aindex, aslice, abuiltin, AV.cells, AV.one, reduceCtorEq, ↓reduceIte, nLT, nLE, nEQ, nAdd, nMul, nPow, nSub, zLT, zLE, zNat, RAes13108, f9, w_succ k (by omega)]
            refine hK _ _ ?_
            clear hK K
            refine ⟨⟨k + 1, h + 1, by omega, by simp only [upd, f1, Nat.reduceEqDiff, ↓reduceIte], by simp only [upd, Nat.reduceEqDiff, ↓reduceIte]; rw [← hV']; rfl, by simp only [upd, f6, Nat.reduceEqDiff, ↓reduceIte], by simp only [upd, f7, Nat.reduceEqDiff, ↓reduceIte], by simp only [upd, f8, Nat.reduceEqDiff, ↓reduceIte], by simp only [upd, ↓reduceIte], AS.gain_own_same _ _ _, AS.le_gain hle2 ht _⟩, ?_⟩
            simp only [f9, upd, ↓reduceIte]
            omega
          · obtain rfl : k = 4 := by omega
            refine awp_reg_seq ?_
            intro K hK
            simp only [↓DN, UP, DF, ashift, aconv, aindexAddr, aindex, aslice, abuiltin, AV.cells, AV.one, reduceCtorEq, ↓reduceIte, nLT, nLE, nEQ, nAdd, nMul, nPow, nSub, zLT, zLE, zNat, RAes13108, f9, decide_eq_false (show ¬ ((4 : Nat) : Int) < 4 by decide)]
            refine hK _ _ ?_
            clear hK K
            refine awp_cond_k ?_
            intro X Y hX hY
            simp only [↓DN, UP, DF, ashift, aconv, aindexAddr, aindex, aslice, abuiltin, AV.cells, AV.one, reduceCtorEq, ↓reduceIte, nLT, nLE, nEQ, nAdd, nMul, nPow, nSub, zLT, zLE, zNat, RAes13108, DB]
            refine hY ?_
            clear hX hY X Y
            refine awp_exit ?_
            simp only [thenQ, blockQ, if_true, if_false]
            clear hK6 K6
            refine hK3 _ _ ?_
            clear hK3 K3
            refine awp_reg_end ?_
            intro K hK
            simp only [↓DN, UP, DF, ashift, aconv, aindexAddr, aindex, aslice, abuiltin, AV.cells, AV.one, reduceCtorEq, ↓reduceIte, nLT, nLE, nEQ, nAdd, nMul, nPow, nSub, zLT, zLE, zNat, RAes13108, f7, w_succ i (by omega)]
            refine hK _ _ ?_
            clear hK K
            refine ⟨⟨i + 1, h, by omega, by omega, by simp only [upd, f1, Nat.reduceEqDiff, ↓reduceIte], by simp only [upd, f5, Nat.reduceEqDiff, ↓reduceIte]; rfl, by simp only [upd, f6, Nat.reduceEqDiff, ↓reduceIte], by simp only [upd, ↓reduceIte], hown2, hle2⟩, ?_⟩
            simp only [e7, upd, ↓reduceIte]
            omega
      clear hK3 hK4 hWl hword
      have r4 := rem4 i
      by_cases hm : i % 4 = 0
      · have h0 : kc key i 0 = Aes.S (Aes.ak key (4 * i - 4 + 1)) ^^^ Aes.pwr (i / 4 - 1) := by unfold kc; rw [if_pos hm, if_pos rfl]
        have h1 : kc key i 1 = Aes.S (Aes.ak key (4 * i - 4 + 2)) := by unfold kc; rw [if_pos hm, if_neg (by decide)]
        have h2 : kc key i 2 = Aes.S (Aes.ak key (4 * i - 4 + 3)) := by unfold kc; rw [if_pos hm, if_neg (by decide)]
        have h3 : kc key i 3 = Aes.S (Aes.ak key (4 * i - 4)) := by unfold kc; rw [if_pos hm, if_neg (by decide)]; rfl
        have hp : (i + 3) / 4 - 1 = i / 4 - 1 := by omega
        have hp2 : (i + 1 + 3) / 4 - 1 = i / 4 - 1 + 1 := by omega
        rw [hp] at e6
        rw [hp2, h0, h1, h2, h3] at hgo
        have hpw : Aes.pwr (i / 4 - 1 + 1) = Aes.dbl (Aes.pwr (i / 4 - 1)) := rfl
        rw [hpw] at hgo
        clear h0 h1 h2 h3 hpw
        generalize Aes.pwr (i / 4 - 1) = pw at *
        generalize Aes.ak key (4 * i - 4) = x0 at *
        generalize Aes.ak key (4 * i - 4 + 1) = x1 at *
        generalize Aes.ak key (4 * i - 4 + 2) = x2 at *
        generalize Aes.ak key (4 * i - 4 + 3) = x3 at *
        have d0 := intL_drop (l := Aes.sb) x0.toNat (by rw [Aes.sb_len]; have := x0.toNat_lt; omega)
        rw [S_at] at d0
        have u0 : (0 : Int) ≤ ((x0.toNat : Nat) : Int) := by omega
        have w0 : ((x0.toNat : Nat) : Int) < ((256 : Nat) : Int) := by have := x0.toNat_lt; omega
        have d1 := intL_drop (l := Aes.sb) x1.toNat (by rw [Aes.sb_len]; have := x1.toNat_lt; omega)
        rw [S_at] at d1
        have u1 : (0 : Int) ≤ ((x1.toNat : Nat) : Int) := by omega
        have w1 : ((x1.toNat : Nat) : Int) < ((256 : Nat) : Int) := by have := x1.toNat_lt; omega
        have d2 := intL_drop (l := Aes.sb) x2.toNat (by rw [Aes.sb_len]; have := x2.toNat_lt; omega)
        rw [S_at] at d2
        have u2 : (0 : Int) ≤ ((x2.toNat : Nat) : Int) := by omega
        have w2 : ((x2.toNat : Nat) : Int) < ((256 : Nat) : Int) := by have := x2.toNat_lt; omega
        have d3 := intL_drop (l := Aes.sb) x3.toNat (by rw [Aes.sb_len]; have := x3.toNat_lt; omega)
        rw [S_at] at d3
        have u3 : (0 : Int) ≤ ((x3.toNat : Nat) : Int) := by omega
        have w3 : ((x3.toNat : Nat) : Int) < ((256 : Nat) : Int) := by have := x3.toNat_lt; omega
        have rep4 : ∀ x : AV, List.replicate 4 x = [x, x, x, x] := fun _ => rfl
        rw [hm] at r4
        refine awp_reg_seq ?_
        intro K hK
        simp only [↓DN, UP, DF, ashift, aconv, aindexAddr, aindex, aslice, abuiltin, AV.cells, AV.one, reduceCtorEq, ↓reduceIte, nLT, nLE, nEQ, nAdd, nMul, nPow, nSub, zLT, zLE, zNat, RAes13108, e7, r4, four_ne, show (((0 : Nat) : Int) == 0) = true from rfl]
        refine hK _ _ ?_
        clear hK K
        refine awp_cond_k ?_
        intro X Y hX hY
        simp only [↓DN, UP, DF, ashift, aconv, aindexAddr, aindex, aslice, abuiltin, AV.cells, AV.one, reduceCtorEq, ↓reduceIte, nLT, nLE, nEQ, nAdd, nMul, nPow, nSub, zLT, zLE, zNat, RAes13108, DB]
        refine hX ?_
        clear hX hY X Y
        generalize hY : intL Aes.sb = Y at *
        refine awp_drw_seq T.mixed [] (by kernel_rfl) ?_
        intro K hK
        simp only [↓AXq_nil, ↓AXq_cons, pval, DX, Nat.reduceBEq, ↓DN, UP, DF, ashift, aconv, aindexAddr, aindex, aslice, abuiltin, AV.cells, AV.one, reduceCtorEq, ↓reduceIte, nLT, nLE, nEQ, nAdd, nMul, nPow, nSub, zLT, zLE, zNat, RAes13108, e1, e6, d0, d1, d2, d3, u0, u1, u2, u3, w0, w1, w2, w3, nb_xor, rep4, show (0 : Int) < ((4 : Nat) : Int) from by decide, show (1 : Int) < ((4 : Nat) : Int) from by decide, show (2 : Int) < ((4 : Nat) : Int) from by decide, show (3 : Int) < ((4 : Nat) : Int) from by decide]
        refine hK _ _ ?_
        clear hK K
        refine awp_reg_end ?_
        intro K hK
        simp only [↓DN, UP, DF, ashift, aconv, aindexAddr, aindex, aslice, abuiltin, AV.cells, AV.one, reduceCtorEq, ↓reduceIte, nLT, nLE, nEQ, nAdd, nMul, nPow, nSub, zLT, zLE, zNat, RAes13108, e6]
        refine acallk (refMul05_calls pw.toNat 2 pw.toNat_lt (by decide) _) ?_
        rintro r s3 ⟨rfl, rfl⟩
        rw [rmul2_at]
        simp only [↓AXq_nil, ↓AXq_cons, pval, DX, Nat.reduceBEq, ↓DN, UP, DF, ashift, aconv, aindexAddr, aindex, aslice, abuiltin, AV.cells, AV.one, reduceCtorEq, ↓reduceIte, nLT, nLE, nEQ, nAdd, nMul, nPow, nSub, zLT, zLE, zNat, RAes13108]
        refine hK _ _ ?_
        clear hK K
        simp only [blockQ, thenQ, if_true, if_false]
        exact hgo _ .new (by simp only [upd, e1, Nat.reduceEqDiff, ↓reduceIte]) (by simp only [upd, e5, Nat.reduceEqDiff, ↓reduceIte]) (by simp only [upd, ↓reduceIte]) (by simp only [upd, e7, Nat.reduceEqDiff, ↓reduceIte]) (by simp only [upd, Nat.reduceEqDiff, ↓reduceIte])
      · have h0 : kc key i 0 = Aes.ak key (4 * i - 4) := by unfold kc; rw [if_neg hm]; rfl
        have h1 : kc key i 1 = Aes.ak key (4 * i - 4 + 1) := by unfold kc; rw [if_neg hm]
        have h2 : kc key i 2 = Aes.ak key (4 * i - 4 + 2) := by unfold kc; rw [if_neg hm]
        have h3 : kc key i 3 = Aes.ak key (4 * i - 4 + 3) := by unfold kc; rw [if_neg hm]
        have hp : (i + 1 + 3) / 4 - 1 = (i + 3) / 4 - 1 := by omega
        rw [hp, h0, h1, h2, h3] at hgo
        have hmz : ((((i % 4 : Nat) : Int)) == 0) = false := by simp; omega
        refine awp_reg_seq ?_
        intro K hK
        simp only [↓DN, UP, DF, ashift, aconv, aindexAddr, aindex, aslice, abuiltin, AV.cells, AV.one, reduceCtorEq, ↓reduceIte, nLT, nLE, nEQ, nAdd, nMul, nPow, nSub, zLT, zLE, zNat, RAes13108, e7, r4, four_ne, hmz]
        refine hK _ _ ?_
        clear hK K
        refine awp_cond_k ?_
        intro X Y hX hY
        simp only [↓DN, UP, DF, ashift, aconv, aindexAddr, aindex, aslice, abuiltin, AV.cells, AV.one, reduceCtorEq, ↓reduceIte, nLT, nLE, nEQ, nAdd, nMul, nPow, nSub, zLT, zLE, zNat, RAes13108, DB]
        refine hY ?_
        clear hX hY X Y
        refine awp_skip ?_
        exact hgo _ (.own t8 0) (by simp only [upd, e1, Nat.reduceEqDiff, ↓reduceIte]) (by simp only [upd, e5, Nat.reduceEqDiff, ↓reduceIte]) (by simp only [upd, e6, Nat.reduceEqDiff, ↓reduceIte]) (by simp only [upd, e7, Nat.reduceEqDiff, ↓reduceIte]) (by simp only [upd, Nat.reduceEqDiff, ↓reduceIte])
    · obtain rfl : i = 44 := by omega
      refine awp_reg_seq ?_
      intro K hK
      simp only [↓DN, UP, DF, ashift, aconv, aindexAddr, aindex, aslice, abuiltin, AV.cells, AV.one, reduceCtorEq, ↓reduceIte, nLT, nLE, nEQ, nAdd, nMul, nPow, nSub, zLT, zLE, zNat, RAes13108, e7, decide_eq_false (show ¬ ((44 : Nat) : Int) < 44 by decide)]
      refine hK _ _ ?_
      clear hK K
      refine awp_cond_k ?_
      intro X Y hX hY
      simp only [↓DN, UP, DF, ashift, aconv, aindexAddr, aindex, aslice, abuiltin, AV.cells, AV.one, reduceCtorEq, ↓reduceIte, nLT, nLE, nEQ, nAdd, nMul, nPow, nSub, zLT, zLE, zNat, RAes13108, DB]
      refine hY ?_
      clear hX hY X Y
      refine awp_exit ?_
      simp only [thenQ, blockQ, if_true]
      clear hK2 K2
      refine hK _ _ ?_
      clear hK K
      rw [show 4 * 44 = 176 from rfl, List.take_of_length_le (by rw [keysL_len]; omega)] at e5
      generalize intL (keysL key) = X at *
      refine awp_reg_seq ?_
      intro K hK
      simp only [↓DN, UP, DF, ashift, aconv, aindexAddr, aindex, aslice, abuiltin, AV.cells, AV.one, reduceCtorEq, ↓reduceIte, nLT, nLE, nEQ, nAdd, nMul, nPow, nSub, zLT, zLE, zNat, RAes13108, e5]
      refine hK _ _ ?_
      clear hK K
      refine awp_ret ?_
      simp only [retQ, AEnds, aresL, ares, List.toList_toArray, ↓upd_same]; try simp only [↓DN, UP, DF, ashift, aconv, aindexAddr, aindex, aslice, abuiltin, AV.cells, AV.one, reduceCtorEq, ↓reduceIte, nLT, nLE, nEQ, nAdd, nMul, nPow, nSub, zLT, zLE, zNat, RAes13108, DT]
      exact ⟨_, s, AV.weak_any, hle, rfl, rfl⟩

end Go.Proofs.YtooeklnbdgoneaaDoor


set_option autoImplicit false
namespace Go.Proofs.YtooeklnbdgoneaaDoor
open Go Go.AM Go.Proofs

theorem RAes14110 : type_of% (And.intro (And.intro (And.intro (And.intro @Tryd.underlying3 (And.intro T.c3 T.g3)) (And.intro T.b3 (And.intro T.z3 @Tryd.underlying140))) (And.intro (And.intro T.c140 (And.intro T.g140 T.b140)) (And.intro T.z140 (And.intro T.s140 T.k123)))) Tryd.ntmps110) :=
  (And.intro (And.intro (And.intro (And.intro @Tryd.underlying3 (And.intro T.c3 T.g3)) (And.intro T.b3 (And.intro T.z3 @Tryd.underlying140))) (And.intro (And.intro T.c140 (And.intro T.g140 T.b140)) (And.intro T.z140 (And.intro T.s140 T.k123)))) Tryd.ntmps110)

variable {Γ : Nat → List AV}

def shL (b : List UInt8) : List UInt8 := (List.range 16).map (Aes.sh b)
theorem rep4n : ∀ x : AV, List.replicate 4 x = [x, x, x, x] := fun _ => rfl
theorem imul16 (i : Nat) (h : i < 1000) : imul .i64 16 (i : Int) = ((16 * i : Nat) : Int) := by
  rw [imul_i64 (by omega)]
  omega
theorem keys_drop (key : List UInt8) (n : Nat) (h : n < 176) : List.drop n (intL (keysL key)) = nV (Aes.ak key n).toNat :: List.drop (n + 1) (intL (keysL key)) := by
  have := intL_drop (l := keysL key) n (by rw [keysL_len]; exact h)
  rwa [keys_get key n h] at this
def mm (x : UInt8) (j : Nat) : UInt8 := if j = 0 then Aes.dbl x else if j = 1 then Aes.dbl x ^^^ x else x
def mN (j : Nat) : Nat := if j = 0 then 2 else if j = 1 then 3 else 1
theorem mN_lt (j : Nat) : mN j < 256 := by unfold mN; split; decide; split <;> decide
theorem mm_mul (x : UInt8) (j : Nat) : Aes.rmul x.toNat (mN j) = (mm x j).toNat := by
  have hx := x.toNat_lt
  unfold mN mm
  split
  · exact rmul2_at x
  · split
    · have := Aes.rmul3 x.toNat hx
      rwa [UInt8.ofNat_toNat] at this
    · exact Aes.rmul1 x.toNat hx
theorem mN_drop (j : Nat) (h : j < 4) : List.drop j [nV 2, nV 3, nV 1, nV 1] = nV (mN j) :: List.drop (j + 1) [nV 2, nV 3, nV 1, nV 1] := by
  rcases (show j = 0 ∨ j = 1 ∨ j = 2 ∨ j = 3 by omega) with rfl | rfl | rfl | rfl <;> rfl
def acc (c : Nat → UInt8) (row : Nat) : Nat → UInt8
  | 0 => 0
  | k + 1 => acc c row k ^^^ mm (c k) ((k + 4 - row) % 4)
theorem acc_mx (c : Nat → UInt8) (row : Nat) (h : row < 4) : acc c row 4 = Aes.mx c row := by
  rcases (show row = 0 ∨ row = 1 ∨ row = 2 ∨ row = 3 by omega) with rfl | rfl | rfl | rfl
  all_goals
    simp [acc, mm, Aes.mx]
    try ac_rfl
theorem idx_walk (k row : Nat) (hk : k < 4) (hr : row < 4) : irem (iadd .i64 (isub .i64 (k : Int) (row : Int)) 4) 4 = (((k + 4 - row) % 4 : Nat) : Int) := by
  rw [isub_i64 (by omega), iadd_i64 (by omega), show (k : Int) - (row : Int) + 4 = ((k + 4 - row : Nat) : Int) by omega]
  exact irem_u (k + 4 - row) 4
theorem state0_at (key b : List UInt8) (n : Nat) (h : n < 16) : b.getD n 0 ^^^ Aes.ak key n = (Aes.state key b 0).getD n 0 := by
  rw [Aes.state, Aes.add_get _ _ _ h, Aes.ak, Nat.div_eq_of_lt h, Nat.mod_eq_of_lt h]
theorem state_next (key b : List UInt8) (q n : Nat) (h : n < 16) : rndB (Aes.state key b q) (q + 1 == 10) n ^^^ Aes.ak key (16 * (q + 1) + n) = (Aes.state key b (q + 1)).getD n 0 := by
  rw [Aes.state, Aes.add_get _ _ _ h, rndB, Aes.ak, show (16 * (q + 1) + n) / 16 = q + 1 by omega, show (16 * (q + 1) + n) % 16 = n by omega]
theorem state_range (key b : List UInt8) (q : Nat) : (List.range 16).map (fun n => (Aes.state key b q).getD n 0) = Aes.state key b q := range_list (Aes.state_len key b q)
theorem state_intL (key b : List UInt8) (q : Nat) (F : Nat → UInt8) : fillI F (fun n => (Aes.state key b q).getD n 0) 16 0 = intL (Aes.state key b q) := by
  conv => rhs; rw [← state_range key b q]
  rw [fillI, intL, List.map_map]
  apply List.map_congr_left
  intro n hn
  rw [if_neg (by omega)]
  rfl

set_option maxHeartbeats 16000000 in
set_option maxRecDepth 100000 in
theorem refBlock_calls (key b : List UInt8) (hk : key.length = 16) (hb : b.length = 16) (s : AS) :
    ACalls Tryd.prog Γ 110 [.sl 1 176 (intL (keysL key)) .any, .sl 1 256 (intL Aes.sb) .any, .sl 1 16 (intL b) .any] s (fun r s' => r = .sl 1 16 (intL (Aes.block key b)) .no ∧ s' = s) := by
  refine gcalls_body Tryd.func110 rfl Tryd.ntmps110 Tryd.results110 (by simp) ?_
  refine gwp_seq_k ?_
  intro K1 hK1
  refine awp_reg_end ?_
  intro K hK
  simp only [↓DN, UP, DF, ashift, aconv, aindexAddr, aindex, aslice, abuiltin, AV.cells, AV.one, reduceCtorEq, ↓reduceIte, nLT, nLE, nEQ, nAdd, nMul, nPow, nSub, zLT, zLE, zNat, RAes14110]
  refine hK _ _ ?_
  clear hK K
  simp only [thenQ]
  refine hK1 _ _ ?_
  clear hK1 K1
  refine gwp_seq_k ?_
  intro K1 hK1
  refine awp_reg_end ?_
  intro K hK
  simp only [↓DN, UP, DF, ashift, aconv, aindexAddr, aindex, aslice, abuiltin, AV.cells, AV.one, reduceCtorEq, ↓reduceIte, nLT, nLE, nEQ, nAdd, nMul, nPow, nSub, zLT, zLE, zNat, RAes14110]
  refine ⟨by decide, by decide, fun o7 ho7 => ?_⟩
  refine hK _ _ ?_
  clear hK K
  simp only [thenQ]
  refine hK1 _ _ ?_
  clear hK1 K1
  rw [show List.replicate 16 (AV.v (.int .i64 0)) = List.replicate 16 (nV 0) from rfl, ← fillI_nought (fun n => (Aes.state key b 0).getD n 0) 16]
  generalize hs1 : s.set o7 (fillI (fun n => (Aes.state key b 0).getD n 0) (fun _ => 0) 16 0) = s1 at *
  have j7 : s1.objs o7 = some (fillI (fun n => (Aes.state key b 0).getD n 0) (fun _ => 0) 16 0) := by rw [← hs1]; exact AS.set_objs_same _ _ _
  have hle : s.le s1 := by rw [← hs1]; exact AS.le_set (AS.le.refl s) ho7 _
  clear hs1
  refine gwp_seq_k ?_
  intro K1 hK1
  refine awp_reg_seq ?_
  intro K hK
  simp only [↓DN, UP, DF, ashift, aconv, aindexAddr, aindex, aslice, abuiltin, AV.cells, AV.one, reduceCtorEq, ↓reduceIte, nLT, nLE, nEQ, nAdd, nMul, nPow, nSub, zLT, zLE, zNat, RAes14110]
  refine hK _ _ ?_
  clear hK K
  refine awp_block ?_
  refine awp_loop (fun E s2 => ∃ i : Nat, i ≤ 16 ∧ E 0 = .sl 1 176 (intL (keysL key)) .any ∧ E 1 = .sl 1 256 (intL Aes.sb) .any ∧ E 2 = .sl 1 16 (intL b) .any ∧ E 7 = .osl o7 0 1 16 16 ∧ E 8 = nV i ∧ s2.objs o7 = some (fillI (fun n => (Aes.state key b 0).getD n 0) (fun _ => 0) 16 i) ∧ s.le s2)
    (fun E _ => match E 8 with | .v (.int _ i) => 16 - i.toNat | _ => 0) ?_ ?_
  · exact ⟨0, by omega, by simp only [upd, initE, Nat.reduceEqDiff, ↓reduceIte]; rfl, by simp only [upd, initE, Nat.reduceEqDiff, ↓reduceIte]; rfl, by simp only [upd, initE, Nat.reduceEqDiff, ↓reduceIte]; rfl, by simp only [upd, Nat.reduceEqDiff, ↓reduceIte], by simp only [upd, ↓reduceIte]; rfl, j7, hle⟩
  · clear j7 hle
    rintro E1 s2 ⟨i, hi, e0, e1, e2, e7, e8, j7, hle⟩ -
    refine awp_seq_k ?_
    intro K2 hK2
    by_cases hi' : i < 16
    · refine awp_reg_seq ?_
      intro K hK
      simp only [↓DN, UP, DF, ashift, aconv, aindexAddr, aindex, aslice, abuiltin, AV.cells, AV.one, reduceCtorEq, ↓reduceIte, nLT, nLE, nEQ, nAdd, nMul, nPow, nSub, zLT, zLE, zNat, RAes14110, e8, decide_eq_true (show (i : Int) < 16 by omega)]
      refine hK _ _ ?_
      clear hK K
      refine awp_cond_k ?_
      intro X Y hX hY
      simp only [↓DN, UP, DF, ashift, aconv, aindexAddr, aindex, aslice, abuiltin, AV.cells, AV.one, reduceCtorEq, ↓reduceIte, nLT, nLE, nEQ, nAdd, nMul, nPow, nSub, zLT, zLE, zNat, RAes14110, DB]
      refine hX ?_
      clear hX hY X Y
      refine awp_skip ?_
      refine hK2 _ _ ?_
      clear hK2 K2
      refine awp_seq_k ?_
      intro K3 hK3
      refine awp_block ?_
      have hst := state0_at key b i hi'
      have hset := fillI_set (fun n => (Aes.state key b 0).getD n 0) (fun _ => 0) 16 i _ (by rw [← hst])
      have hlen := fillI_len (fun n => (Aes.state key b 0).getD n 0) (fun _ => 0) 16 i
      have db := intL_drop (l := b) i (by omega)
      have dk := keys_drop key i (by omega)
      generalize hR' : fillI (fun n => (Aes.state key b 0).getD n 0) (fun _ => 0) 16 (i + 1) = R' at *
      generalize fillI (fun n => (Aes.state key b 0).getD n 0) (fun _ => 0) 16 i = R at *
      generalize b.getD i 0 = x at *
      generalize Aes.ak key i = y at *
      generalize hKS : intL (keysL key) = KS at *
      generalize hBB : intL b = BB at *
      have m0 : (0 : Int) ≤ (i : Int) := by omega
      have m1 : (i : Int) < ((16 : Nat) : Int) := by omega
      have m2 : (i : Int) < ((176 : Nat) : Int) := by omega
      have m3 : i + 1 ≤ 16 := by omega
      refine awp_mrk_end T.mixed [(o7, R)] [] [] [12] (by kernel_rfl) (by simp only [Pres_cons, Pres_nil, and_true]; simp [AS.set, upd, j7]) ?_
      intro K hK
      simp only [↓AXr_nil, ↓AXr_cons, gval, lval, fzGet_cons, fzGet_nil, Pres_cons, Pres_nil, List.any_cons, List.any_nil, List.contains_cons, List.contains_nil, Nat.reduceBEq, Bool.or_false, Bool.or_true, Bool.or_self, Bool.false_or, ↓DN, UP, DF, ashift, aconv, aindexAddr, aindex, aslice, abuiltin, AV.cells, AV.one, reduceCtorEq, ↓reduceIte, nLT, nLE, nEQ, nAdd, nMul, nPow, nSub, zLT, zLE, zNat, RAes14110, e0, e2, e7, e8, m0, m1, m2, m3, hi', j7, db, dk, nb_xor, hset, hlen]
      first
        | refine hK _ _ ?_
        | refine ⟨by omega, hK _ _ ?_⟩
      clear hK K
      simp only [blockQ, thenQ, if_true, if_false]
      refine hK3 _ _ ?_
      clear hK3 K3
      refine awp_reg_end ?_
      intro K hK
      simp only [↓DN, UP, DF, ashift, aconv, aindexAddr, aindex, aslice, abuiltin, AV.cells, AV.one, reduceCtorEq, ↓reduceIte, nLT, nLE, nEQ, nAdd, nMul, nPow, nSub, zLT, zLE, zNat, RAes14110, e8, w_succ i (by omega)]
      refine hK _ _ ?_
      clear hK K
      refine ⟨⟨i + 1, by omega, by simp only [upd, e0, Nat.reduceEqDiff, ↓reduceIte], by simp only [upd, e1, Nat.reduceEqDiff, ↓reduceIte], by simp only [upd, e2, Nat.reduceEqDiff, ↓reduceIte], by simp only [upd, e7, Nat.reduceEqDiff, ↓reduceIte], by simp only [upd, ↓reduceIte], by rw [hR']; exact AS.set_objs_same _ _ _, AS.le_set hle ho7 _⟩, ?_⟩
      simp only [e8, upd, ↓reduceIte]
      omega
    · obtain rfl : i = 16 := by omega
      refine awp_reg_seq ?_
      intro K hK
      simp only [↓DN, UP, DF, ashift, aconv, aindexAddr, aindex, aslice, abuiltin, AV.cells, AV.one, reduceCtorEq, ↓reduceIte, nLT, nLE, nEQ, nAdd, nMul, nPow, nSub, zLT, zLE, zNat, RAes14110, e8, decide_eq_false (show ¬ ((16 : Nat) : Int) < 16 by decide)]
      refine hK _ _ ?_
      clear hK K
      refine awp_cond_k ?_
      intro X Y hX hY
      simp only [↓DN, UP, DF, ashift, aconv, aindexAddr, aindex, aslice, abuiltin, AV.cells, AV.one, reduceCtorEq, ↓reduceIte, nLT, nLE, nEQ, nAdd, nMul, nPow, nSub, zLT, zLE, zNat, RAes14110, DB]
      refine hY ?_
      clear hX hY X Y
      refine awp_exit ?_
      simp only [thenQ, blockQ, if_true]
      clear hK2 K2
      refine hK1 _ _ ?_
      clear hK1 K1
      rw [fillI_full, state_range] at j7
      refine gwp_seq_k ?_
      intro K1 hK1
      refine awp_reg_end ?_
      intro K hK
      simp only [↓DN, UP, DF, ashift, aconv, aindexAddr, aindex, aslice, abuiltin, AV.cells, AV.one, reduceCtorEq, ↓reduceIte, nLT, nLE, nEQ, nAdd, nMul, nPow, nSub, zLT, zLE, zNat, RAes14110, rep4n]
      refine hK _ _ ?_
      clear hK K
      simp only [thenQ]
      refine hK1 _ _ ?_
      clear hK1 K1
      refine gwp_seq_k ?_
      intro K1 hK1
      refine awp_reg_seq ?_
      intro K hK
      simp only [↓DN, UP, DF, ashift, aconv, aindexAddr, aindex, aslice, abuiltin, AV.cells, AV.one, reduceCtorEq, ↓reduceIte, nLT, nLE, nEQ, nAdd, nMul, nPow, nSub, zLT, zLE, zNat, RAes14110]
      refine hK _ _ ?_
      clear hK K
      refine awp_block ?_
      refine awp_loop (fun E s3 => ∃ q : Nat, q ≤ 10 ∧ E 0 = .sl 1 176 (intL (keysL key)) .any ∧ E 1 = .sl 1 256 (intL Aes.sb) .any ∧ E 7 = .osl o7 0 1 16 16 ∧ E 9 = .sl 1 4 [nV 2, nV 3, nV 1, nV 1] .new ∧ E 10 = nV (q + 1) ∧ s3.objs o7 = some (intL (Aes.state key b q)) ∧ s.le s3)
        (fun E _ => match E 10 with | .v (.int _ i) => 11 - i.toNat | _ => 0) ?_ ?_
      · exact ⟨0, by omega, by simp only [upd, e0, Nat.reduceEqDiff, ↓reduceIte], by simp only [upd, e1, Nat.reduceEqDiff, ↓reduceIte], by simp only [upd, e7, Nat.reduceEqDiff, ↓reduceIte], by simp only [upd, Nat.reduceEqDiff, ↓reduceIte]; rfl, by simp only [upd, ↓reduceIte]; rfl, j7, hle⟩
      · clear j7 hle e0 e1 e2 e7 e8
        rintro E2 s3 ⟨q, hq, e0, e1, e7, e9, e10, j7, hle⟩ -
        refine awp_seq_k ?_
        intro K2 hK2
        by_cases hq' : q < 10
        · refine awp_reg_seq ?_
          intro K hK
          simp only [↓DN, UP, DF, ashift, aconv, aindexAddr, aindex, aslice, abuiltin, AV.cells, AV.one, reduceCtorEq, ↓reduceIte, nLT, nLE, nEQ, nAdd, nMul, nPow, nSub, zLT, zLE, zNat, RAes14110, e10, decide_eq_true (show ((q + 1 : Nat) : Int) ≤ 10 by omega)]
          refine hK _ _ ?_
          clear hK K
          refine awp_cond_k ?_
          intro X Y hX hY
          simp only [↓DN, UP, DF, ashift, aconv, aindexAddr, aindex, aslice, abuiltin, AV.cells, AV.one, reduceCtorEq, ↓reduceIte, nLT, nLE, nEQ, nAdd, nMul, nPow, nSub, zLT, zLE, zNat, RAes14110, DB]
          refine hX ?_
          clear hX hY X Y
          refine awp_skip ?_
          refine hK2 _ _ ?_
          clear hK2 K2
          refine awp_seq_k ?_
          intro K3 hK3
          refine awp_block ?_
          refine awp_reg_seq ?_
          intro K hK
          simp only [↓DN, UP, DF, ashift, aconv, aindexAddr, aindex, aslice, abuiltin, AV.cells, AV.one, reduceCtorEq, ↓reduceIte, nLT, nLE, nEQ, nAdd, nMul, nPow, nSub, zLT, zLE, zNat, RAes14110]
          refine ⟨by decide, by decide, fun o11 ho11 => ?_⟩
          refine hK _ _ ?_
          clear hK K
          rw [show List.replicate 16 (AV.v (.int .i64 0)) = List.replicate 16 (nV 0) from rfl, ← fillI_nought (Aes.sh (Aes.state key b q)) 16]
          have n117 : o11 ≠ o7 := fun e => by rw [e, j7] at ho11; cases ho11
          have hs11 : s.objs o11 = none := by
            cases h : s.objs o11 with
            | none => rfl
            | some cs => rw [hle.objs _ _ h] at ho11; cases ho11
          generalize hs4 : s3.set o11 (fillI (Aes.sh (Aes.state key b q)) (fun _ => 0) 16 0) = s4 at *
          have q7 : s4.objs o7 = some (intL (Aes.state key b q)) := by rw [← hs4, AS.set_objs_ne _ n117.symm]; exact j7
          have q11 : s4.objs o11 = some (fillI (Aes.sh (Aes.state key b q)) (fun _ => 0) 16 0) := by rw [← hs4]; exact AS.set_objs_same _ _ _
          have hle4 : s.le s4 := by rw [← hs4]; exact AS.le_set hle hs11 _
          clear hs4 j7 ho11 hle
          have hBl := Aes.state_len key b q
          refine awp_seq_k ?_
          intro K4 hK4
          refine awp_reg_seq ?_
          intro K hK
          simp only [↓DN, UP, DF, ashift, aconv, aindexAddr, aindex, aslice, abuiltin, AV.cells, AV.one, reduceCtorEq, ↓reduceIte, nLT, nLE, nEQ, nAdd, nMul, nPow, nSub, zLT, zLE, zNat, RAes14110]
          refine hK _ _ ?_
          clear hK K
          refine awp_block ?_
          refine awp_loop (fun E s5 => ∃ c : Nat, c ≤ 4 ∧ E 0 = .sl 1 176 (intL (keysL key)) .any ∧ E 1 = .sl 1 256 (intL Aes.sb) .any ∧ E 7 = .osl o7 0 1 16 16 ∧ E 9 = .sl 1 4 [nV 2, nV 3, nV 1, nV 1] .new ∧ E 10 = nV (q + 1) ∧ E 11 = .osl o11 0 1 16 16 ∧ E 12 = nV c ∧ s5.objs o7 = some (intL (Aes.state key b q)) ∧ s5.objs o11 = some (fillI (Aes.sh (Aes.state key b q)) (fun _ => 0) 16 (4 * c)) ∧ s.le s5)
            (fun E _ => match E 12 with | .v (.int _ i) => 4 - i.toNat | _ => 0) ?_ ?_
          · exact ⟨0, by omega, by simp only [upd, e0, Nat.reduceEqDiff, ↓reduceIte], by simp only [upd, e1, Nat.reduceEqDiff, ↓reduceIte], by simp only [upd, e7, Nat.reduceEqDiff, ↓reduceIte], by simp only [upd, e9, Nat.reduceEqDiff, ↓reduceIte], by simp only [upd, e10, Nat.reduceEqDiff, ↓reduceIte], by simp only [upd, Nat.reduceEqDiff, ↓reduceIte], by simp only [upd, ↓reduceIte]; rfl, q7, q11, hle4⟩
          · clear q7 q11 hle4
            rintro E3 s5 ⟨c, hc, f0, f1, f7, f9, f10, f11, g12, q7, q11, hle4⟩ -
            refine awp_seq_k ?_
            intro K5 hK5
            by_cases hc' : c < 4
            · refine awp_reg_seq ?_
              intro K hK
              simp only [↓DN, UP, DF, ashift, aconv, aindexAddr, aindex, aslice, abuiltin, AV.cells, AV.one, reduceCtorEq, ↓reduceIte, nLT, nLE, nEQ, nAdd, nMul, nPow, nSub, zLT, zLE, zNat, RAes14110, g12, decide_eq_true (show (c : Int) < 4 by omega)]
              refine hK _ _ ?_
              clear hK K
              refine awp_cond_k ?_
              intro X Y hX hY
              simp only [↓DN, UP, DF, ashift, aconv, aindexAddr, aindex, aslice, abuiltin, AV.cells, AV.one, reduceCtorEq, ↓reduceIte, nLT, nLE, nEQ, nAdd, nMul, nPow, nSub, zLT, zLE, zNat, RAes14110, DB]
              refine hX ?_
              clear hX hY X Y
              refine awp_skip ?_
              refine hK5 _ _ ?_
              clear hK5 K5
              refine awp_seq_k ?_
              intro K6 hK6
              refine awp_block ?_
              refine awp_reg_seq ?_
              intro K hK
              simp only [↓DN, UP, DF, ashift, aconv, aindexAddr, aindex, aslice, abuiltin, AV.cells, AV.one, reduceCtorEq, ↓reduceIte, nLT, nLE, nEQ, nAdd, nMul, nPow, nSub, zLT, zLE, zNat, RAes14110]
              refine hK _ _ ?_
              clear hK K
              refine awp_block ?_
              refine awp_loop (fun E s6 => ∃ r : Nat, r ≤ 4 ∧ E 0 = .sl 1 176 (intL (keysL key)) .any ∧ E 1 = .sl 1 256 (intL Aes.sb) .any ∧ E 7 = .osl o7 0 1 16 16 ∧ E 9 = .sl 1 4 [nV 2, nV 3, nV 1, nV 1] .new ∧ E 10 = nV (q + 1) ∧ E 11 = .osl o11 0 1 16 16 ∧ E 12 = nV c ∧ E 13 = nV r ∧ s6.objs o7 = some (intL (Aes.state key b q)) ∧ s6.objs o11 = some (fillI (Aes.sh (Aes.state key b q)) (fun _ => 0) 16 (4 * c + r)) ∧ s.le s6)
                (fun E _ => match E 13 with | .v (.int _ i) => 4 - i.toNat | _ => 0) ?_ ?_
              · exact ⟨0, by omega, by simp only [upd, f0, Nat.reduceEqDiff, ↓reduceIte], by simp only [upd, f1, Nat.reduceEqDiff, ↓reduceIte], by simp only [upd, f7, Nat.reduceEqDiff, ↓reduceIte], by simp only [upd, f9, Nat.reduceEqDiff, ↓reduceIte], by simp only [upd, f10, Nat.reduceEqDiff, ↓reduceIte], by simp only [upd, f11, Nat.reduceEqDiff, ↓reduceIte], by simp only [upd, g12, Nat.reduceEqDiff, ↓reduceIte], by simp only [upd, ↓reduceIte]; rfl, q7, q11, hle4⟩
              · clear q7 q11 hle4 f0 f1 f7 f9 f10 f11
                rintro E4 s6 ⟨r, hr, f0, f1, f7, f9, f10, f11, f12, f13, q7, q11, hle4⟩ -
                refine awp_seq_k ?_
                intro K7 hK7
                by_cases hr' : r < 4
                · refine awp_reg_seq ?_
                  intro K hK
                  simp only [↓DN, UP, DF, ashift, aconv, aindexAddr, aindex, aslice, abuiltin, AV.cells, AV.one, reduceCtorEq, ↓reduceIte, nLT, nLE, nEQ, nAdd, nMul, nPow, nSub, zLT, zLE, zNat, RAes14110, f13, decide_eq_true (show (r : Int) < 4 by omega)]
                  refine hK _ _ ?_
                  clear hK K
                  refine awp_cond_k ?_
                  intro X Y hX hY
                  simp only [↓DN, UP, DF, ashift, aconv, aindexAddr, aindex, aslice, abuiltin, AV.cells, AV.one, reduceCtorEq, ↓reduceIte, nLT, nLE, nEQ, nAdd, nMul, nPow, nSub, zLT, zLE, zNat, RAes14110, DB]
                  refine hX ?_
                  clear hX hY X Y
                  refine awp_skip ?_
                  refine hK7 _ _ ?_
                  clear hK7 K7
                  refine awp_seq_k ?_
                  intro K8 hK8
                  refine awp_block ?_
                  have hset := fillI_set (Aes.sh (Aes.state key b q)) (fun _ => 0) 16 (4 * c + r) _ rfl
                  have hsh : Aes.sh (Aes.state key b q) (4 * c + r) = Aes.S ((Aes.state key b q).getD (4 * ((c + r) % 4) + r) 0) := by
                    rw [Aes.sh, show (4 * c + r) / 4 = c by omega, show (4 * c + r) % 4 = r by omega]
                  rw [hsh] at hset
                  have hlen := fillI_len (Aes.sh (Aes.state key b q)) (fun _ => 0) 16 (4 * c + r)
                  have a0 := i64_mul4n c (by omega)
                  have a1 := i64_add (4 * c) r (by omega)
                  have a2 := i64_add c r (by omega)
                  have a3 := rem4 (c + r)
                  have a4 := i64_mul4n ((c + r) % 4) (by omega)
                  have a5 := i64_add (4 * ((c + r) % 4)) r (by omega)
                  have hml : 4 * ((c + r) % 4) + r < 16 := by omega
                  have db := intL_drop (l := Aes.state key b q) (4 * ((c + r) % 4) + r) (by omega)
                  clear hsh
                  generalize 4 * ((c + r) % 4) + r = m at *
                  generalize (Aes.state key b q).getD m 0 = x at *
                  have ds := intL_drop (l := Aes.sb) x.toNat (by rw [Aes.sb_len]; have := x.toNat_lt; omega)
                  rw [S_at] at ds
                  have hx := x.toNat_lt
                  have hBB : (intL (Aes.state key b q)).length = 16 := by rw [intL_len]; exact hBl
                  generalize hR' : fillI (Aes.sh (Aes.state key b q)) (fun _ => 0) 16 (4 * c + r + 1) = R' at *
                  generalize fillI (Aes.sh (Aes.state key b q)) (fun _ => 0) 16 (4 * c + r) = R at *
                  generalize hB : intL (Aes.state key b q) = BQ at *
                  generalize hY : intL Aes.sb = YY at *
                  have m0 : (0 : Int) ≤ (m : Int) := by omega
                  have m1 : (m : Int) < ((16 : Nat) : Int) := by omega
                  have m2 : (0 : Int) ≤ ((x.toNat : Nat) : Int) := by omega
                  have m3 : ((x.toNat : Nat) : Int) < ((256 : Nat) : Int) := by omega
                  have m4 : (0 : Int) ≤ ((4 * c + r : Nat) : Int) := by omega
                  have m5 : ((4 * c + r : Nat) : Int) < ((16 : Nat) : Int) := by omega
                  have m6 : 4 * c + r + 1 ≤ 16 := by omega
                  have m7 : 4 * c + r < 16 := by omega
                  refine awp_reg_end ?_
                  intro K hK
                  simp only [↓DN, UP, DF, ashift, aconv, aindexAddr, aindex, aslice, abuiltin, AV.cells, AV.one, reduceCtorEq, ↓reduceIte, nLT, nLE, nEQ, nAdd, nMul, nPow, nSub, zLT, zLE, zNat, RAes14110, f1, f7, f11, f12, f13, a0, a1, a2, a3, a4, a5, m0, m1, m2, m3, m4, m5, m6, m7, hml, q7, q11, db, ds, hset, hlen, hBB, four_ne]
                  first
                    | refine hK _ _ ?_
                    | refine ⟨by omega, hK _ _ ?_⟩
                  clear hK K
                  simp only [blockQ, thenQ, if_true, if_false]
                  refine hK8 _ _ ?_
                  clear hK8 K8
                  refine awp_reg_end ?_
                  intro K hK
                  simp only [↓DN, UP, DF, ashift, aconv, aindexAddr, aindex, aslice, abuiltin, AV.cells, AV.one, reduceCtorEq, ↓reduceIte, nLT, nLE, nEQ, nAdd, nMul, nPow, nSub, zLT, zLE, zNat, RAes14110, f13, w_succ r (by omega)]
                  refine hK _ _ ?_
                  clear hK K
                  refine ⟨⟨r + 1, by omega, by simp only [upd, f0, Nat.reduceEqDiff, ↓reduceIte], by simp only [upd, f1, Nat.reduceEqDiff, ↓reduceIte], by simp only [upd, f7, Nat.reduceEqDiff, ↓reduceIte], by simp only [upd, f9, Nat.reduceEqDiff, ↓reduceIte], by simp only [upd, f10, Nat.reduceEqDiff, ↓reduceIte], by simp only [upd, f11, Nat.reduceEqDiff, ↓reduceIte], by simp only [upd, f12, Nat.reduceEqDiff, ↓reduceIte], by simp only [upd, ↓reduceIte], by rw [AS.set_objs_ne _ n117.symm, q7], by rw [show 4 * c + (r + 1) = 4 * c + r + 1 from rfl, hR']; exact AS.set_objs_same _ _ _, AS.le_set hle4 hs11 _⟩, ?_⟩
                  simp only [f13, upd, ↓reduceIte]
                  omega
                · obtain rfl : r = 4 := by omega
                  refine awp_reg_seq ?_
                  intro K hK
                  simp only [↓DN, UP, DF, ashift, aconv, aindexAddr, aindex, aslice, abuiltin, AV.cells, AV.one, reduceCtorEq, ↓reduceIte, nLT, nLE, nEQ, nAdd, nMul, nPow, nSub, zLT, zLE, zNat, RAes14110, f13, decide_eq_false (show ¬ ((4 : Nat) : Int) < 4 by decide)]
                  refine hK _ _ ?_
                  clear hK K
                  refine awp_cond_k ?_
                  intro X Y hX hY
                  simp only [↓DN, UP, DF, ashift, aconv, aindexAddr, aindex, aslice, abuiltin, AV.cells, AV.one, reduceCtorEq, ↓reduceIte, nLT, nLE, nEQ, nAdd, nMul, nPow, nSub, zLT, zLE, zNat, RAes14110, DB]
                  refine hY ?_
                  clear hX hY X Y
                  refine awp_exit ?_
                  simp only [thenQ, blockQ, if_true, if_false]
                  clear hK7 K7
                  refine hK6 _ _ ?_
                  clear hK6 K6
                  refine awp_reg_end ?_
                  intro K hK
                  simp only [↓DN, UP, DF, ashift, aconv, aindexAddr, aindex, aslice, abuiltin, AV.cells, AV.one, reduceCtorEq, ↓reduceIte, nLT, nLE, nEQ, nAdd, nMul, nPow, nSub, zLT, zLE, zNat, RAes14110, f12, w_succ c (by omega)]
                  refine hK _ _ ?_
                  clear hK K
                  refine ⟨⟨c + 1, by omega, by simp only [upd, f0, Nat.reduceEqDiff, ↓reduceIte], by simp only [upd, f1, Nat.reduceEqDiff, ↓reduceIte], by simp only [upd, f7, Nat.reduceEqDiff, ↓reduceIte], by simp only [upd, f9, Nat.reduceEqDiff, ↓reduceIte], by simp only [upd, f10, Nat.reduceEqDiff, ↓reduceIte], by simp only [upd, f11, Nat.reduceEqDiff, ↓reduceIte], by simp only [upd, ↓reduceIte], q7, by rw [show 4 * (c + 1) = 4 * c + 4 from rfl]; exact q11, hle4⟩, ?_⟩
                  simp only [g12, upd, ↓reduceIte]
                  omega
            · obtain rfl : c = 4 := by omega
              refine awp_reg_seq ?_
              intro K hK
              simp only [↓DN, UP, DF, ashift, aconv, aindexAddr, aindex, aslice, abuiltin, AV.cells, AV.one, reduceCtorEq, ↓reduceIte, nLT, nLE, nEQ, nAdd, nMul, nPow, nSub, zLT, zLE, zNat, RAes14110, g12, decide_eq_false (show ¬ ((4 : Nat) : Int) < 4 by decide)]
              refine hK _ _ ?_
              clear hK K
              refine awp_cond_k ?_
              intro X Y hX hY
              simp only [↓DN, UP, DF, ashift, aconv, aindexAddr, aindex, aslice, abuiltin, AV.cells, AV.one, reduceCtorEq, ↓reduceIte, nLT, nLE, nEQ, nAdd, nMul, nPow, nSub, zLT, zLE, zNat, RAes14110, DB]
              refine hY ?_
              clear hX hY X Y
              refine awp_exit ?_
              simp only [thenQ, blockQ, if_true]
              clear hK5 K5
              refine hK4 _ _ ?_
              clear hK4 K4
              rw [show 4 * 4 = 16 from rfl, fillI_full, show (List.range 16).map (Aes.sh (Aes.state key b q)) = shL (Aes.state key b q) from rfl] at q11
              rw [← state_intL key b q (fun n => (Aes.state key b (q + 1)).getD n 0)] at q7
              have hSl : (intL (shL (Aes.state key b q))).length = 16 := by rw [intL_len, shL]; simp
              have hSd : ∀ n, n < 16 → List.drop n (intL (shL (Aes.state key b q))) = nV (Aes.sh (Aes.state key b q) n).toNat :: List.drop (n + 1) (intL (shL (Aes.state key b q))) := by
                intro n hn
                have := intL_drop (l := shL (Aes.state key b q)) n (by rw [shL]; simp; omega)
                rwa [show (shL (Aes.state key b q)).getD n 0 = Aes.sh (Aes.state key b q) n from Aes.range_get _ _ _ _ hn] at this
              generalize hSS : intL (shL (Aes.state key b q)) = SS at *
              refine awp_reg_seq ?_
              intro K hK
              simp only [↓DN, UP, DF, ashift, aconv, aindexAddr, aindex, aslice, abuiltin, AV.cells, AV.one, reduceCtorEq, ↓reduceIte, nLT, nLE, nEQ, nAdd, nMul, nPow, nSub, zLT, zLE, zNat, RAes14110]
              refine hK _ _ ?_
              clear hK K
              refine awp_block ?_
              refine awp_loop (fun E s6 => ∃ c : Nat, c ≤ 4 ∧ E 0 = .sl 1 176 (intL (keysL key)) .any ∧ E 1 = .sl 1 256 (intL Aes.sb) .any ∧ E 7 = .osl o7 0 1 16 16 ∧ E 9 = .sl 1 4 [nV 2, nV 3, nV 1, nV 1] .new ∧ E 10 = nV (q + 1) ∧ E 11 = .osl o11 0 1 16 16 ∧ E 14 = nV c ∧ s6.objs o7 = some (fillI (fun n => (Aes.state key b (q + 1)).getD n 0) (fun n => (Aes.state key b q).getD n 0) 16 (4 * c)) ∧ s6.objs o11 = some SS ∧ s.le s6)
                (fun E _ => match E 14 with | .v (.int _ i) => 4 - i.toNat | _ => 0) ?_ ?_
              · exact ⟨0, by omega, by simp only [upd, f0, Nat.reduceEqDiff, ↓reduceIte], by simp only [upd, f1, Nat.reduceEqDiff, ↓reduceIte], by simp only [upd, f7, Nat.reduceEqDiff, ↓reduceIte], by simp only [upd, f9, Nat.reduceEqDiff, ↓reduceIte], by simp only [upd, f10, Nat.reduceEqDiff, ↓reduceIte], by simp only [upd, f11, Nat.reduceEqDiff, ↓reduceIte], by simp only [upd, ↓reduceIte]; rfl, q7, q11, hle4⟩
              · clear q7 q11 hle4 f0 f1 f7 f9 f10 f11 g12
                rintro E5 s6 ⟨c, hc, f0, f1, f7, f9, f10, f11, g14, q7, q11, hle4⟩ -
                refine awp_seq_k ?_
                intro K5 hK5
                by_cases hc' : c < 4
                · refine awp_reg_seq ?_
                  intro K hK
                  simp only [↓DN, UP, DF, ashift, aconv, aindexAddr, aindex, aslice, abuiltin, AV.cells, AV.one, reduceCtorEq, ↓reduceIte, nLT, nLE, nEQ, nAdd, nMul, nPow, nSub, zLT, zLE, zNat, RAes14110, g14, decide_eq_true (show (c : Int) < 4 by omega)]
                  refine hK _ _ ?_
                  clear hK K
                  refine awp_cond_k ?_
                  intro X Y hX hY
                  simp only [↓DN, UP, DF, ashift, aconv, aindexAddr, aindex, aslice, abuiltin, AV.cells, AV.one, reduceCtorEq, ↓reduceIte, nLT, nLE, nEQ, nAdd, nMul, nPow, nSub, zLT, zLE, zNat, RAes14110, DB]
                  refine hX ?_
                  clear hX hY X Y
                  refine awp_skip ?_
                  refine hK5 _ _ ?_
                  clear hK5 K5
                  refine awp_seq_k ?_
                  intro K6 hK6
                  refine awp_block ?_
                  refine awp_reg_seq ?_
                  intro K hK
                  simp only [↓DN, UP, DF, ashift, aconv, aindexAddr, aindex, aslice, abuiltin, AV.cells, AV.one, reduceCtorEq, ↓reduceIte, nLT, nLE, nEQ, nAdd, nMul, nPow, nSub, zLT, zLE, zNat, RAes14110]
                  refine hK _ _ ?_
                  clear hK K
                  refine awp_block ?_
                  refine awp_loop (fun E s7 => ∃ r : Nat, r ≤ 4 ∧ E 0 = .sl 1 176 (intL (keysL key)) .any ∧ E 1 = .sl 1 256 (intL Aes.sb) .any ∧ E 7 = .osl o7 0 1 16 16 ∧ E 9 = .sl 1 4 [nV 2, nV 3, nV 1, nV 1] .new ∧ E 10 = nV (q + 1) ∧ E 11 = .osl o11 0 1 16 16 ∧ E 14 = nV c ∧ E 15 = nV r ∧ s7.objs o7 = some (fillI (fun n => (Aes.state key b (q + 1)).getD n 0) (fun n => (Aes.state key b q).getD n 0) 16 (4 * c + r)) ∧ s7.objs o11 = some SS ∧ s.le s7)
                    (fun E _ => match E 15 with | .v (.int _ i) => 4 - i.toNat | _ => 0) ?_ ?_
                  · exact ⟨0, by omega, by simp only [upd, f0, Nat.reduceEqDiff, ↓reduceIte], by simp only [upd, f1, Nat.reduceEqDiff, ↓reduceIte], by simp only [upd, f7, Nat.reduceEqDiff, ↓reduceIte], by simp only [upd, f9, Nat.reduceEqDiff, ↓reduceIte], by simp only [upd, f10, Nat.reduceEqDiff, ↓reduceIte], by simp only [upd, f11, Nat.reduceEqDiff, ↓reduceIte], by simp only [upd, g14, Nat.reduceEqDiff, ↓reduceIte], by simp only [upd, ↓reduceIte]; rfl, q7, q11, hle4⟩
                  · clear q7 q11 hle4 f0 f1 f7 f9 f10 f11
                    rintro E6 s7 ⟨r, hr, f0, f1, f7, f9, f10, f11, f14, f15, q7, q11, hle4⟩ -
                    refine awp_seq_k ?_
                    intro K7 hK7
                    by_cases hr' : r < 4
                    · refine awp_reg_seq ?_
                      intro K hK
                      simp only [↓DN, UP, DF, ashift, aconv, aindexAddr, aindex, aslice, abuiltin, AV.cells, AV.one, reduceCtorEq, ↓reduceIte, nLT, nLE, nEQ, nAdd, nMul, nPow, nSub, zLT, zLE, zNat, RAes14110, f15, decide_eq_true (show (r : Int) < 4 by omega)]
                      refine hK _ _ ?_
                      clear hK K
                      refine awp_cond_k ?_
                      intro X Y hX hY
                      simp only [↓DN, UP, DF, ashift, aconv, aindexAddr, aindex, aslice, abuiltin, AV.cells, AV.one, reduceCtorEq, ↓reduceIte, nLT, nLE, nEQ, nAdd, nMul, nPow, nSub, zLT, zLE, zNat, RAes14110, DB]
                      refine hX ?_
                      clear hX hY X Y
                      refine awp_skip ?_
                      refine hK7 _ _ ?_
                      clear hK7 K7
                      refine awp_seq_k ?_
                      intro K8 hK8
                      refine awp_block ?_
                      have a0 := i64_mul4n c (by omega)
                      have a1 := i64_add (4 * c) r (by omega)
                      have hd := hSd (4 * c + r) (by omega)
                      have m4 : (0 : Int) ≤ ((4 * c + r : Nat) : Int) := by omega
                      have m5 : ((4 * c + r : Nat) : Int) < ((16 : Nat) : Int) := by omega
                      have m6 : 4 * c + r + 1 ≤ 16 := by omega
                      have m7 : 4 * c + r < 16 := by omega
                      refine awp_reg_seq ?_
                      intro K hK
                      simp only [↓DN, UP, DF, ashift, aconv, aindexAddr, aindex, aslice, abuiltin, AV.cells, AV.one, reduceCtorEq, ↓reduceIte, nLT, nLE, nEQ, nAdd, nMul, nPow, nSub, zLT, zLE, zNat, RAes14110, f11, f14, f15, a0, a1, m4, m5, m6, m7, q11, hd, hSl]
                      refine hK _ _ ?_
                      clear hK K
                      refine awp_seq_k ?_
                      intro K9 hK9
                      have hnext := state_next key b q (4 * c + r) m7
                      have hrnd : rndB (Aes.state key b q) (q + 1 == 10) (4 * c + r) = if (q + 1 == 10) = true then Aes.sh (Aes.state key b q) (4 * c + r) else Aes.mx (fun i => Aes.sh (Aes.state key b q) (4 * c + i)) r := by
                        rw [rndB, Aes.rnd_get _ _ _ m7, show (4 * c + r) / 4 = c by omega, show (4 * c + r) % 4 = r by omega]
                      have hgo : ∀ (E7 : Env), E7 0 = .sl 1 176 (intL (keysL key)) .any → E7 1 = .sl 1 256 (intL Aes.sb) .any → E7 7 = .osl o7 0 1 16 16 → E7 9 = .sl 1 4 [nV 2, nV 3, nV 1, nV 1] .new → E7 10 = nV (q + 1) → E7 11 = .osl o11 0 1 16 16 → E7 14 = nV c → E7 15 = nV r → E7 16 = nV (rndB (Aes.state key b q) (q + 1 == 10) (4 * c + r)).toNat → K9 E7 s7 := by
                        intro E7 g0 g1 g7 g9 g10 g11 h14 g15 g16
                        refine hK9 _ _ ?_
                        clear hK9 K9
                        have hset := fillI_set (fun n => (Aes.state key b (q + 1)).getD n 0) (fun n => (Aes.state key b q).getD n 0) 16 (4 * c + r) _ (by rw [← hnext])
                        have hlen := fillI_len (fun n => (Aes.state key b (q + 1)).getD n 0) (fun n => (Aes.state key b q).getD n 0) 16 (4 * c + r)
                        have dk := keys_drop key (16 * (q + 1) + (4 * c + r)) (by omega)
                        have a2 := imul16 (q + 1) (by omega)
                        have a3 := i64_add (16 * (q + 1)) (4 * c) (by omega)
                        have a4 := i64_add (16 * (q + 1) + 4 * c) r (by omega)
                        rw [Nat.add_assoc (16 * (q + 1)) (4 * c) r] at a4
                        have hKl : (intL (keysL key)).length = 176 := by rw [intL_len, keysL_len]
                        generalize hR' : fillI (fun n => (Aes.state key b (q + 1)).getD n 0) (fun n => (Aes.state key b q).getD n 0) 16 (4 * c + r + 1) = R' at *
                        generalize fillI (fun n => (Aes.state key b (q + 1)).getD n 0) (fun n => (Aes.state key b q).getD n 0) 16 (4 * c + r) = R at *
                        generalize rndB (Aes.state key b q) (q + 1 == 10) (4 * c + r) = x at *
                        generalize Aes.ak key (16 * (q + 1) + (4 * c + r)) = y at *
                        generalize hKS : intL (keysL key) = KS at *
                        have u0 : (0 : Int) ≤ ((16 * (q + 1) + (4 * c + r) : Nat) : Int) := by omega
                        have u1 : ((16 * (q + 1) + (4 * c + r) : Nat) : Int) < ((176 : Nat) : Int) := by omega
                        refine awp_reg_end ?_
                        intro K hK
                        simp only [↓DN, UP, DF, ashift, aconv, aindexAddr, aindex, aslice, abuiltin, AV.cells, AV.one, reduceCtorEq, ↓reduceIte, nLT, nLE, nEQ, nAdd, nMul, nPow, nSub, zLT, zLE, zNat, RAes14110, g0, g7, g10, h14, g15, g16, a0, a1, a2, a3, a4, m4, m5, m6, m7, u0, u1, dk, nb_xor, q7, hset, hlen, hKl]
                        refine hK _ _ ?_
                        clear hK K
                        simp only [blockQ, thenQ, if_true, if_false]
                        refine hK8 _ _ ?_
                        clear hK8 K8
                        refine awp_reg_end ?_
                        intro K hK
                        simp only [↓DN, UP, DF, ashift, aconv, aindexAddr, aindex, aslice, abuiltin, AV.cells, AV.one, reduceCtorEq, ↓reduceIte, nLT, nLE, nEQ, nAdd, nMul, nPow, nSub, zLT, zLE, zNat, RAes14110, g15, w_succ r (by omega)]
                        refine hK _ _ ?_
                        clear hK K
                        refine ⟨⟨r + 1, by omega, by simp only [upd, g0, Nat.reduceEqDiff, ↓reduceIte], by simp only [upd, g1, Nat.reduceEqDiff, ↓reduceIte], by simp only [upd, g7, Nat.reduceEqDiff, ↓reduceIte], by simp only [upd, g9, Nat.reduceEqDiff, ↓reduceIte], by simp only [upd, g10, Nat.reduceEqDiff, ↓reduceIte], by simp only [upd, g11, Nat.reduceEqDiff, ↓reduceIte], by simp only [upd, h14, Nat.reduceEqDiff, ↓reduceIte], by simp only [upd, ↓reduceIte], by rw [show 4 * c + (r + 1) = 4 * c + r + 1 from rfl, hR']; exact AS.set_objs_same _ _ _, by rw [AS.set_objs_ne _ n117]; exact q11, AS.le_set hle4 ho7 _⟩, ?_⟩
                        simp only [f15, upd, ↓reduceIte]
                        omega
                      clear hK8 hK9
                      by_cases hlast : q + 1 = 10
                      · rw [if_pos (by simpa using hlast)] at hrnd
                        rw [← hrnd] at hd
                        refine awp_reg_seq ?_
                        intro K hK
                        simp only [↓DN, UP, DF, ashift, aconv, aindexAddr, aindex, aslice, abuiltin, AV.cells, AV.one, reduceCtorEq, ↓reduceIte, nLT, nLE, nEQ, nAdd, nMul, nPow, nSub, zLT, zLE, zNat, RAes14110, f10, decide_eq_false (show ¬ ((q + 1 : Nat) : Int) < 10 by omega)]
                        refine hK _ _ ?_
                        clear hK K
                        refine awp_cond_k ?_
                        intro X Y hX hY
                        simp only [↓DN, UP, DF, ashift, aconv, aindexAddr, aindex, aslice, abuiltin, AV.cells, AV.one, reduceCtorEq, ↓reduceIte, nLT, nLE, nEQ, nAdd, nMul, nPow, nSub, zLT, zLE, zNat, RAes14110, DB]
                        refine hY ?_
                        clear hX hY X Y
                        refine awp_skip ?_
                        exact hgo _ (by simp only [upd, f0, Nat.reduceEqDiff, ↓reduceIte]) (by simp only [upd, f1, Nat.reduceEqDiff, ↓reduceIte]) (by simp only [upd, f7, Nat.reduceEqDiff, ↓reduceIte]) (by simp only [upd, f9, Nat.reduceEqDiff, ↓reduceIte]) (by simp only [upd, f10, Nat.reduceEqDiff, ↓reduceIte]) (by simp only [upd, f11, Nat.reduceEqDiff, ↓reduceIte]) (by simp only [upd, f14, Nat.reduceEqDiff, ↓reduceIte]) (by simp only [upd, f15, Nat.reduceEqDiff, ↓reduceIte]) (by simp only [upd, Nat.reduceEqDiff, ↓reduceIte]; rw [hrnd])
                      · rw [if_neg (by simpa using hlast)] at hrnd
                        refine awp_reg_seq ?_
                        intro K hK
                        simp only [↓DN, UP, DF, ashift, aconv, aindexAddr, aindex, aslice, abuiltin, AV.cells, AV.one, reduceCtorEq, ↓reduceIte, nLT, nLE, nEQ, nAdd, nMul, nPow, nSub, zLT, zLE, zNat, RAes14110, f10, decide_eq_true (show ((q + 1 : Nat) : Int) < 10 by omega)]
                        refine hK _ _ ?_
                        clear hK K
                        refine awp_cond_k ?_
                        intro X Y hX hY
                        simp only [↓DN, UP, DF, ashift, aconv, aindexAddr, aindex, aslice, abuiltin, AV.cells, AV.one, reduceCtorEq, ↓reduceIte, nLT, nLE, nEQ, nAdd, nMul, nPow, nSub, zLT, zLE, zNat, RAes14110, DB]
                        refine hX ?_
                        clear hX hY X Y
                        refine awp_reg_seq ?_
                        intro K hK
                        simp only [↓DN, UP, DF, ashift, aconv, aindexAddr, aindex, aslice, abuiltin, AV.cells, AV.one, reduceCtorEq, ↓reduceIte, nLT, nLE, nEQ, nAdd, nMul, nPow, nSub, zLT, zLE, zNat, RAes14110]
                        refine hK _ _ ?_
                        clear hK K
                        refine awp_reg_seq ?_
                        intro K hK
                        simp only [↓DN, UP, DF, ashift, aconv, aindexAddr, aindex, aslice, abuiltin, AV.cells, AV.one, reduceCtorEq, ↓reduceIte, nLT, nLE, nEQ, nAdd, nMul, nPow, nSub, zLT, zLE, zNat, RAes14110]
                        refine hK _ _ ?_
                        clear hK K
                        refine awp_block ?_
                        refine awp_loop (fun E s8 => ∃ k : Nat, k ≤ 4 ∧ E 0 = .sl 1 176 (intL (keysL key)) .any ∧ E 1 = .sl 1 256 (intL Aes.sb) .any ∧ E 7 = .osl o7 0 1 16 16 ∧ E 9 = .sl 1 4 [nV 2, nV 3, nV 1, nV 1] .new ∧ E 10 = nV (q + 1) ∧ E 11 = .osl o11 0 1 16 16 ∧ E 14 = nV c ∧ E 15 = nV r ∧ E 16 = nV (acc (fun i => Aes.sh (Aes.state key b q) (4 * c + i)) r k).toNat ∧ E 17 = nV k ∧ s8 = s7)
                          (fun E _ => match E 17 with | .v (.int _ i) => 4 - i.toNat | _ => 0) ?_ ?_
                        · exact ⟨0, by omega, by simp only [upd, f0, Nat.reduceEqDiff, ↓reduceIte], by simp only [upd, f1, Nat.reduceEqDiff, ↓reduceIte], by simp only [upd, f7, Nat.reduceEqDiff, ↓reduceIte], by simp only [upd, f9, Nat.reduceEqDiff, ↓reduceIte], by simp only [upd, f10, Nat.reduceEqDiff, ↓reduceIte], by simp only [upd, f11, Nat.reduceEqDiff, ↓reduceIte], by simp only [upd, f14, Nat.reduceEqDiff, ↓reduceIte], by simp only [upd, f15, Nat.reduceEqDiff, ↓reduceIte], by simp only [upd, Nat.reduceEqDiff, ↓reduceIte]; rfl, by simp only [upd, ↓reduceIte]; rfl, rfl⟩
                        · rintro E7 s8 ⟨k, hk4, g0, g1, g7, g9, g10, g11, h14, g15, g16, g17, rfl⟩ -
                          refine awp_seq_k ?_
                          intro K10 hK10
                          by_cases hk' : k < 4
                          · refine awp_reg_seq ?_
                            intro K hK
                            simp only [↓DN, UP, DF, ashift, aconv, aindexAddr, aindex, aslice, abuiltin, AV.cells, AV.one, reduceCtorEq, ↓reduceIte, nLT, nLE, nEQ, nAdd, nMul, nPow, nSub, zLT, zLE, zNat, RAes14110, g17, decide_eq_true (show (k : Int) < 4 by omega)]
                            refine hK _ _ ?_
                            clear hK K
                            refine awp_cond_k ?_
                            intro X Y hX hY
                            simp only [↓DN, UP, DF, ashift, aconv, aindexAddr, aindex, aslice, abuiltin, AV.cells, AV.one, reduceCtorEq, ↓reduceIte, nLT, nLE, nEQ, nAdd, nMul, nPow, nSub, zLT, zLE, zNat, RAes14110, DB]
                            refine hX ?_
                            clear hX hY X Y
                            refine awp_skip ?_
                            refine hK10 _ _ ?_
                            clear hK10 K10
                            refine awp_seq_k ?_
                            intro K11 hK11
                            refine awp_block ?_
                            have hacc : acc (fun i => Aes.sh (Aes.state key b q) (4 * c + i)) r (k + 1) = acc (fun i => Aes.sh (Aes.state key b q) (4 * c + i)) r k ^^^ mm (Aes.sh (Aes.state key b q) (4 * c + k)) ((k + 4 - r) % 4) := rfl
                            have b1 := i64_add (4 * c) k (by omega)
                            have b2 := idx_walk k r hk' hr'
                            have hdk := hSd (4 * c + k) (by omega)
                            have hdm := mN_drop ((k + 4 - r) % 4) (by omega)
                            have hmu := fun s => refMul05_calls (Γ := Γ) (Aes.sh (Aes.state key b q) (4 * c + k)).toNat (mN ((k + 4 - r) % 4)) (Aes.sh (Aes.state key b q) (4 * c + k)).toNat_lt (mN_lt _) s
                            rw [mm_mul] at hmu
                            generalize hAcc' : acc (fun i => Aes.sh (Aes.state key b q) (4 * c + i)) r (k + 1) = A' at *
                            generalize acc (fun i => Aes.sh (Aes.state key b q) (4 * c + i)) r k = A0 at *
                            have v0 : (0 : Int) ≤ ((4 * c + k : Nat) : Int) := by omega
                            have v1 : ((4 * c + k : Nat) : Int) < ((16 : Nat) : Int) := by omega
                            have v2 : (0 : Int) ≤ (((k + 4 - r) % 4 : Nat) : Int) := by omega
                            have v3 : (((k + 4 - r) % 4 : Nat) : Int) < ((4 : Nat) : Int) := by omega
                            have v4 : 4 * c + k < 16 := by omega
                            have v5 : 4 * c + k + 1 ≤ 16 := by omega
                            generalize (k + 4 - r) % 4 = m at *
                            generalize mm (Aes.sh (Aes.state key b q) (4 * c + k)) m = mv at *
                            generalize Aes.sh (Aes.state key b q) (4 * c + k) = x at *
                            generalize hMM : [nV 2, nV 3, nV 1, nV 1] = MM at *
                            refine awp_mrk_end T.mixed [(o11, SS)] [16] [7] [] (by kernel_rfl) (by simp only [Pres_cons, Pres_nil, and_true]; simp [AS.set, upd, q11]) ?_
                            intro K hK
                            simp only [↓AXr_nil, ↓AXr_cons, gval, lval, fzGet_cons, fzGet_nil, Pres_cons, Pres_nil, List.any_cons, List.any_nil, List.contains_cons, List.contains_nil, Nat.reduceBEq, Bool.or_false, Bool.or_true, Bool.or_self, Bool.false_or, ↓DN, UP, DF, ashift, aconv, aindexAddr, aindex, aslice, abuiltin, AV.cells, AV.one, reduceCtorEq, ↓reduceIte, nLT, nLE, nEQ, nAdd, nMul, nPow, nSub, zLT, zLE, zNat, RAes14110, g9, g11, h14, g15, g16, g17, a0, b1, b2, v0, v1, v2, v3, v4, v5, hdk, hdm, q11, hSl, four_ne]
                            refine acallk (hmu _) ?_
                            rintro r9 s9 ⟨rfl, rfl⟩
                            simp only [↓AXq_nil, ↓AXq_cons, pval, ↓AXr_nil, ↓AXr_cons, gval, lval, fzGet_cons, fzGet_nil, Pres_cons, Pres_nil, List.any_cons, List.any_nil, DX, Nat.reduceBEq, ↓DN, UP, DF, ashift, aconv, aindexAddr, aindex, aslice, abuiltin, AV.cells, AV.one, reduceCtorEq, ↓reduceIte, nLT, nLE, nEQ, nAdd, nMul, nPow, nSub, zLT, zLE, zNat, RAes14110, g9, g11, h14, g15, g16, g17, a0, b1, b2, v0, v1, v2, v3, v4, v5, hdk, hdm, q11, hSl, four_ne, nb_xor]
                            refine hK _ _ ?_
                            clear hK K
                            simp only [blockQ, thenQ, if_true, if_false]
                            refine hK11 _ _ ?_
                            clear hK11 K11
                            refine awp_reg_end ?_
                            intro K hK
                            simp only [↓DN, UP, DF, ashift, aconv, aindexAddr, aindex, aslice, abuiltin, AV.cells, AV.one, reduceCtorEq, ↓reduceIte, nLT, nLE, nEQ, nAdd, nMul, nPow, nSub, zLT, zLE, zNat, RAes14110, g17, w_succ k (by omega)]
                            refine hK _ _ ?_
                            clear hK K
                            refine ⟨⟨k + 1, by omega, by simp only [upd, g0, Nat.reduceEqDiff, ↓reduceIte], by simp only [upd, g1, Nat.reduceEqDiff, ↓reduceIte], by simp only [upd, g7, Nat.reduceEqDiff, ↓reduceIte], by simp only [upd, g9, Nat.reduceEqDiff, ↓reduceIte], by simp only [upd, g10, Nat.reduceEqDiff, ↓reduceIte], by simp only [upd, g11, Nat.reduceEqDiff, ↓reduceIte], by simp only [upd, h14, Nat.reduceEqDiff, ↓reduceIte], by simp only [upd, g15, Nat.reduceEqDiff, ↓reduceIte], by simp only [upd, Nat.reduceEqDiff, ↓reduceIte]; rw [hAcc', hacc], by simp only [upd, ↓reduceIte], rfl⟩, ?_⟩
                            simp only [g17, upd, ↓reduceIte]
                            omega
                          · obtain rfl : k = 4 := by omega
                            rw [acc_mx _ _ hr', ← hrnd] at g16
                            refine awp_reg_seq ?_
                            intro K hK
                            simp only [↓DN, UP, DF, ashift, aconv, aindexAddr, aindex, aslice, abuiltin, AV.cells, AV.one, reduceCtorEq, ↓reduceIte, nLT, nLE, nEQ, nAdd, nMul, nPow, nSub, zLT, zLE, zNat, RAes14110, g17, decide_eq_false (show ¬ ((4 : Nat) : Int) < 4 by decide)]
                            refine hK _ _ ?_
                            clear hK K
                            refine awp_cond_k ?_
                            intro X Y hX hY
                            simp only [↓DN, UP, DF, ashift, aconv, aindexAddr, aindex, aslice, abuiltin, AV.cells, AV.one, reduceCtorEq, ↓reduceIte, nLT, nLE, nEQ, nAdd, nMul, nPow, nSub, zLT, zLE, zNat, RAes14110, DB]
                            refine hY ?_
                            clear hX hY X Y
                            refine awp_exit ?_
                            simp only [thenQ, blockQ, if_true, if_false]
                            exact hgo _ (by simp only [upd, g0, Nat.reduceEqDiff, ↓reduceIte]) (by simp only [upd, g1, Nat.reduceEqDiff, ↓reduceIte]) (by simp only [upd, g7, Nat.reduceEqDiff, ↓reduceIte]) (by simp only [upd, g9, Nat.reduceEqDiff, ↓reduceIte]) (by simp only [upd, g10, Nat.reduceEqDiff, ↓reduceIte]) (by simp only [upd, g11, Nat.reduceEqDiff, ↓reduceIte]) (by simp only [upd, h14, Nat.reduceEqDiff, ↓reduceIte]) (by simp only [upd, g15, Nat.reduceEqDiff, ↓reduceIte]) (by simp only [upd, g16, Nat.reduceEqDiff, ↓reduceIte])
                    · obtain rfl : r = 4 := by omega
                      refine awp_reg_seq ?_
                      intro K hK
                      simp only [↓DN, UP, DF, ashift, aconv, aindexAddr, aindex, aslice, abuiltin, AV.cells, AV.one, reduceCtorEq, ↓reduceIte, nLT, nLE, nEQ, nAdd, nMul, nPow, nSub, zLT, zLE, zNat, RAes14110, f15, decide_eq_false (show ¬ ((4 : Nat) : Int) < 4 by decide)]
                      refine hK _ _ ?_
                      clear hK K
                      refine awp_cond_k ?_
                      intro X Y hX hY
                      simp only [↓DN, UP, DF, ashift, aconv, aindexAddr, aindex, aslice, abuiltin, AV.cells, AV.one, reduceCtorEq, ↓reduceIte, nLT, nLE, nEQ, nAdd, nMul, nPow, nSub, zLT, zLE, zNat, RAes14110, DB]
                      refine hY ?_
                      clear hX hY X Y
                      refine awp_exit ?_
                      simp only [thenQ, blockQ, if_true, if_false]
                      clear hK7 K7
                      refine hK6 _ _ ?_
                      clear hK6 K6
                      refine awp_reg_end ?_
                      intro K hK
                      simp only [↓DN, UP, DF, ashift, aconv, aindexAddr, aindex, aslice, abuiltin, AV.cells, AV.one, reduceCtorEq, ↓reduceIte, nLT, nLE, nEQ, nAdd, nMul, nPow, nSub, zLT, zLE, zNat, RAes14110, f14, w_succ c (by omega)]
                      refine hK _ _ ?_
                      clear hK K
                      refine ⟨⟨c + 1, by omega, by simp only [upd, f0, Nat.reduceEqDiff, ↓reduceIte], by simp only [upd, f1, Nat.reduceEqDiff, ↓reduceIte], by simp only [upd, f7, Nat.reduceEqDiff, ↓reduceIte], by simp only [upd, f9, Nat.reduceEqDiff, ↓reduceIte], by simp only [upd, f10, Nat.reduceEqDiff, ↓reduceIte], by simp only [upd, f11, Nat.reduceEqDiff, ↓reduceIte], by simp only [upd, ↓reduceIte], by rw [show 4 * (c + 1) = 4 * c + 4 from rfl]; exact q7, q11, hle4⟩, ?_⟩
                      simp only [g14, upd, ↓reduceIte]
                      omega
                · obtain rfl : c = 4 := by omega
                  refine awp_reg_seq ?_
                  intro K hK
                  simp only [↓DN, UP, DF, ashift, aconv, aindexAddr, aindex, aslice, abuiltin, AV.cells, AV.one, reduceCtorEq, ↓reduceIte, nLT, nLE, nEQ, nAdd, nMul, nPow, nSub, zLT, zLE, zNat, RAes14110, g14, decide_eq_false (show ¬ ((4 : Nat) : Int) < 4 by decide)]
                  refine hK _ _ ?_
                  clear hK K
                  refine awp_cond_k ?_
                  intro X Y hX hY
                  simp only [↓DN, UP, DF, ashift, aconv, aindexAddr, aindex, aslice, abuiltin, AV.cells, AV.one, reduceCtorEq, ↓reduceIte, nLT, nLE, nEQ, nAdd, nMul, nPow, nSub, zLT, zLE, zNat, RAes14110, DB]
                  refine hY ?_
                  clear hX hY X Y
                  refine awp_exit ?_
                  simp only [thenQ, blockQ, if_true, if_false]
                  clear hK5 K5
                  refine hK3 _ _ ?_
                  clear hK3 K3
                  rw [show 4 * 4 = 16 from rfl, fillI_full, state_range] at q7
                  refine awp_reg_end ?_
                  intro K hK
                  simp only [↓DN, UP, DF, ashift, aconv, aindexAddr, aindex, aslice, abuiltin, AV.cells, AV.one, reduceCtorEq, ↓reduceIte, nLT, nLE, nEQ, nAdd, nMul, nPow, nSub, zLT, zLE, zNat, RAes14110, f10, w_succ (q + 1) (by omega)]
                  refine hK _ _ ?_
                  clear hK K
                  refine ⟨⟨q + 1, by omega, by simp only [upd, f0, Nat.reduceEqDiff, ↓reduceIte], by simp only [upd, f1, Nat.reduceEqDiff, ↓reduceIte], by simp only [upd, f7, Nat.reduceEqDiff, ↓reduceIte], by simp only [upd, f9, Nat.reduceEqDiff, ↓reduceIte], by simp only [upd, ↓reduceIte], q7, hle4⟩, ?_⟩
                  simp only [e10, upd, ↓reduceIte]
                  omega
        · obtain rfl : q = 10 := by omega
          refine awp_reg_seq ?_
          intro K hK
          simp only [↓DN, UP, DF, ashift, aconv, aindexAddr, aindex, aslice, abuiltin, AV.cells, AV.one, reduceCtorEq, ↓reduceIte, nLT, nLE, nEQ, nAdd, nMul, nPow, nSub, zLT, zLE, zNat, RAes14110, e10, decide_eq_false (show ¬ ((10 + 1 : Nat) : Int) ≤ 10 by decide)]
          refine hK _ _ ?_
          clear hK K
          refine awp_cond_k ?_
          intro X Y hX hY
          simp only [↓DN, UP, DF, ashift, aconv, aindexAddr, aindex, aslice, abuiltin, AV.cells, AV.one, reduceCtorEq, ↓reduceIte, nLT, nLE, nEQ, nAdd, nMul, nPow, nSub, zLT, zLE, zNat, RAes14110, DB]
          refine hY ?_
          clear hX hY X Y
          refine awp_exit ?_
          simp only [thenQ, blockQ, if_true]
          clear hK2 K2
          refine hK1 _ _ ?_
          clear hK1 K1
          rw [show Aes.state key b 10 = Aes.block key b from rfl] at j7
          have hl5 : (intL (Aes.block key b)).length = 16 := by rw [intL_len, Aes.block_len]
          refine gwp_ghost (Ghost.freeze (d := 7) (o := o7) (off := 0) (sz := 1) (n := 16) (cap := 16) (by simp only [upd, Nat.reduceEqDiff, ↓reduceIte]; exact e7) j7 (by omega)) (AWp.g ?_)
          have hle3 : s.le (s3.drop o7) := AS.le_drop hle ho7
          generalize s3.drop o7 = s4 at *
          rw [show ((intL (Aes.block key b)).drop 0).take (16 * 1) = intL (Aes.block key b) from by rw [List.drop_zero, List.take_of_length_le (by omega)]]
          generalize intL (Aes.block key b) = X at *
          refine awp_reg_seq ?_
          intro K hK
          simp only [↓DN, UP, DF, ashift, aconv, aindexAddr, aindex, aslice, abuiltin, AV.cells, AV.one, reduceCtorEq, ↓reduceIte, nLT, nLE, nEQ, nAdd, nMul, nPow, nSub, zLT, zLE, zNat, RAes14110]
          refine hK _ _ ?_
          clear hK K
          refine awp_ret ?_
          simp only [retQ, AEnds, aresL, ares, List.toList_toArray, ↓upd_same]; try simp only [↓DN, UP, DF, ashift, aconv, aindexAddr, aindex, aslice, abuiltin, AV.cells, AV.one, reduceCtorEq, ↓reduceIte, nLT, nLE, nEQ, nAdd, nMul, nPow, nSub, zLT, zLE, zNat, RAes14110, DT]
          exact ⟨_, s, AV.weak.refl _, hle3, rfl, rfl⟩

end Go.Proofs.YtooeklnbdgoneaaDoor


set_option autoImplicit false
namespace Go.AM

/-! ### The prime's arithmetic -/
theorem u64_add (a b : Nat) (h : a + b < 2 ^ 64) : iadd .u64 (a : Int) b = ((a + b : Nat) : Int) := by
  rw [iadd_u rfl]; simp only [IntKind.bits]; rw [Nat.mod_eq_of_lt h]
end Go.AM


