/- Contracts of the program's functions, each walked once; the conditions stand in each theorem. -/
import Derived.Test.YtooeklnbdgoneaaDoorAMp6
import Derived.Test.YtooeklnbdgoneaaDoorW9
import Derived.Test.YtooeklnbdgoneaaDoorAMp5
set_option linter.unusedSimpArgs false
set_option linter.unusedVariables false
open Nat renaming reduceLT → nLT, reduceLeDiff → nLE, reduceEqDiff → nEQ, reduceAdd → nAdd, reduceMul → nMul, reducePow → nPow, reduceSub → nSub
open Int renaming reduceLT → zLT, reduceLE → zLE, reduceToNat → zNat
set_option autoImplicit false
namespace Go.Proofs.YtooeklnbdgoneaaDoor
open Go Go.AM Go.Proofs

theorem RAes1585 : type_of% (And.intro (And.intro (And.intro (And.intro (And.intro (And.intro @Tryd.underlying3 T.c3) (And.intro T.g3 T.b3)) (And.intro (And.intro T.z3 @Tryd.underlying5) (And.intro T.c5 (And.intro T.g5 T.b5)))) (And.intro (And.intro (And.intro T.z5 @Tryd.underlying9) (And.intro T.c9 (And.intro T.g9 T.b9))) (And.intro (And.intro T.z9 @Tryd.underlying22) (And.intro T.c22 (And.intro T.g22 T.b22))))) (And.intro (And.intro (And.intro (And.intro T.z22 T.s22) (And.intro @Tryd.underlying41 T.c41)) (And.intro (And.intro T.g41 T.b41) (And.intro T.z41 (And.intro @Tryd.underlying140 T.c140)))) (And.intro (And.intro (And.intro T.g140 T.b140) (And.intro T.z140 (And.intro T.s140 T.k109))) (And.intro (And.intro T.k107 T.k67) (And.intro T.k59 (And.intro T.k108 T.k110)))))) Tryd.ntmps85) :=
  (And.intro (And.intro (And.intro (And.intro (And.intro (And.intro @Tryd.underlying3 T.c3) (And.intro T.g3 T.b3)) (And.intro (And.intro T.z3 @Tryd.underlying5) (And.intro T.c5 (And.intro T.g5 T.b5)))) (And.intro (And.intro (And.intro T.z5 @Tryd.underlying9) (And.intro T.c9 (And.intro T.g9 T.b9))) (And.intro (And.intro T.z9 @Tryd.underlying22) (And.intro T.c22 (And.intro T.g22 T.b22))))) (And.intro (And.intro (And.intro (And.intro T.z22 T.s22) (And.intro @Tryd.underlying41 T.c41)) (And.intro (And.intro T.g41 T.b41) (And.intro T.z41 (And.intro @Tryd.underlying140 T.c140)))) (And.intro (And.intro (And.intro T.g140 T.b140) (And.intro T.z140 (And.intro T.s140 T.k109))) (And.intro (And.intro T.k107 T.k67) (And.intro T.k59 (And.intro T.k108 T.k110)))))) Tryd.ntmps85)

variable {Γ : Nat → List AV}

theorem first_lt (nonce : List UInt8) (h : nonce.length = 16) : Aes.first nonce < 4294967296 := by
  have key : ∀ (l : List UInt8) (x : Nat), l.foldl (fun x b => x * 256 + b.toNat) x < (x + 1) * 256 ^ l.length := by
    intro l
    induction l with
    | nil => intro x; simp
    | cons b l ih =>
      intro x
      rw [List.foldl_cons]
      have h1 := ih (x * 256 + b.toNat)
      have hb := b.toNat_lt
      have h2 : (x * 256 + b.toNat + 1) * 256 ^ l.length ≤ ((x + 1) * 256) * 256 ^ l.length := Nat.mul_le_mul_right _ (by omega)
      rw [List.length_cons, Nat.pow_succ, Nat.mul_comm (256 ^ l.length), ← Nat.mul_assoc]
      omega
  have := key (nonce.drop 12) 0
  rw [List.length_drop, h] at this
  exact this
theorem ctr_len (nonce : List UInt8) (h : nonce.length = 16) (i : Nat) : (Aes.ctr nonce i).length = 16 := by simp [Aes.ctr, h]
theorem mask_succ (key nonce text : List UInt8) (n : Nat) (h : n < text.length) : (Aes.mask key nonce text).take (n + 1) = (Aes.mask key nonce text).take n ++ [text.getD n 0 ^^^ Aes.maskB key nonce n] := by
  have hl : n < (Aes.mask key nonce text).length := by rw [Aes.mask_len]; exact h
  have e := Aes.mask_get key nonce text n h
  rw [List.getD_eq_getElem?_getD, List.getElem?_eq_getElem hl] at e
  simp only [Option.getD_some] at e
  rw [List.take_succ_eq_append_getElem hl, e]
theorem mask_takeM (key nonce text : List UInt8) (n : Nat) (h : text.length ≤ n) : (Aes.mask key nonce text).take n = Aes.mask key nonce text := List.take_of_length_le (by rw [Aes.mask_len]; exact h)
theorem quo16 (j : Nat) (h : j < 2 ^ 50) : iquo .i64 ((16 * j : Nat) : Int) 16 = ((j : Nat) : Int) := by
  have : iquo .i64 ((16 * j : Nat) : Int) ((16 : Nat) : Int) = ((j : Nat) : Int) := by
    rw [iquo]
    have e : Int.tdiv ((16 * j : Nat) : Int) ((16 : Nat) : Int) = ((16 * j / 16 : Nat) : Int) := (Int.ofNat_tdiv _ 16).symm
    rw [e, Nat.mul_div_cancel_left _ (by decide), IntWalk.i64_in _ (by omega)]
  exact this
theorem b_self (x : UInt8) : iconv .u8 (x.toNat : Int) = ((x.toNat : Nat) : Int) := by
  rw [b_conv, UInt8.ofNat_toNat]
theorem rem32 (n : Nat) : irem (n : Int) 4294967296 = ((n % 4294967296 : Nat) : Int) := irem_u n 4294967296

set_option maxHeartbeats 8000000 in
set_option maxRecDepth 100000 in
theorem refMask_calls (key nonce text : List UInt8) (hk : key.length = 48) (hn : nonce.length = 16) (ht : text.length ≤ 2 ^ 30) (s : AS) :
    ACalls Tryd.prog Γ 85 [.v (.string ⟨key.toArray⟩), .v (.string ⟨nonce.toArray⟩), .v (.string ⟨text.toArray⟩)] s (fun r s' => r = .v (.string ⟨(Aes.mask key nonce text).toArray⟩) ∧ s' = s) := by
  refine acalls_body Tryd.func85 rfl Tryd.ntmps85 Tryd.results85 (by simp) ?_
  have hk16 : (key.take 16).length = 16 := by simp [hk]
  have hIl : (intL (key.take 16)).length = 16 := by rw [intL_len, hk16]
  have hint := fun s => refInts05_calls (Γ := Γ) (key.take 16) (by omega) s
  have hkeys := fun s => refKeys_calls (Γ := Γ) (key.take 16) hk16 s
  have hblk := fun j s => refBlock_calls (Γ := Γ) (key.take 16) (Aes.ctr nonce j) hk16 (ctr_len nonce hn j) s
  have hfl := first_lt nonce hn
  have hval := fun s => value_calls (Γ := Γ) (nonce.drop 12) (by simp [hn]) s
  rw [show beNat (nonce.drop 12) = Aes.first nonce from rfl] at hval
  have hmB : ∀ j k, k < 16 → Aes.maskB key nonce (16 * j + k) = (Aes.block (key.take 16) (Aes.ctr nonce j)).getD k 0 := by
    intro j k hk
    rw [Aes.maskB, show (16 * j + k) / 16 = j by omega, show (16 * j + k) % 16 = k by omega]
  refine awp_reg_seq ?_
  intro K hK
  simp only [↓DN, UP, DF, ashift, aconv, aindexAddr, aindex, aslice, abuiltin, AV.cells, AV.one, reduceCtorEq, ↓reduceIte, nLT, nLE, nEQ, nAdd, nMul, nPow, nSub, zLT, zLE, zNat, RAes1585]
  refine hK _ _ ?_
  clear hK K
  refine awp_reg_seq ?_
  intro K hK
  simp only [↓DN, UP, DF, ashift, aconv, aindexAddr, aindex, aslice, abuiltin, AV.cells, AV.one, reduceCtorEq, ↓reduceIte, nLT, nLE, nEQ, nAdd, nMul, nPow, nSub, zLT, zLE, zNat, RAes1585]
  refine acallk (refBoxes_calls _) ?_
  rintro r s1 ⟨rfl, rfl⟩
  simp only [↓AXq_nil, ↓AXq_cons, pval, DX, Nat.reduceBEq, ↓DN, UP, DF, ashift, aconv, aindexAddr, aindex, aslice, abuiltin, AV.cells, AV.one, reduceCtorEq, ↓reduceIte, nLT, nLE, nEQ, nAdd, nMul, nPow, nSub, zLT, zLE, zNat, RAes1585]
  refine hK _ _ ?_
  clear hK K
  refine awp_reg_seq ?_
  intro K hK
  simp only [↓DN, UP, DF, ashift, aconv, aindexAddr, aindex, aslice, abuiltin, AV.cells, AV.one, reduceCtorEq, ↓reduceIte, nLT, nLE, nEQ, nAdd, nMul, nPow, nSub, zLT, zLE, zNat, RAes1585, hk, show (0 : Int) ≤ 16 from by decide, show (16 : Int) ≤ ((48 : Nat) : Int) from by decide]
  refine acallk (hint _) ?_
  intro r s2 hout
  have hle2 := hout.1
  have hio : ∃ t e, r = .sl 1 16 (intL (key.take 16)) (.own t e) := by
    rcases hout.2 with ⟨h, _⟩ | ⟨t, e, _, _, rfl⟩
    · rw [h] at hIl; cases hIl
    · exact ⟨t, e, by rw [hIl]⟩
  obtain ⟨t, e, rfl⟩ := hio
  clear hout
  simp only [↓AXq_nil, ↓AXq_cons, pval, DX, Nat.reduceBEq, ↓DN, UP, DF, ashift, aconv, aindexAddr, aindex, aslice, abuiltin, AV.cells, AV.one, reduceCtorEq, ↓reduceIte, nLT, nLE, nEQ, nAdd, nMul, nPow, nSub, zLT, zLE, zNat, RAes1585]
  refine acallk (ACalls.weaks (AVs.weak.cons AV.weak_any (AVs.weak.cons AV.weak_any AVs.weak.nil)) (hkeys _)) ?_
  rintro r s3 ⟨rfl, rfl⟩
  simp only [↓AXq_nil, ↓AXq_cons, pval, DX, Nat.reduceBEq, ↓DN, UP, DF, ashift, aconv, aindexAddr, aindex, aslice, abuiltin, AV.cells, AV.one, reduceCtorEq, ↓reduceIte, nLT, nLE, nEQ, nAdd, nMul, nPow, nSub, zLT, zLE, zNat, RAes1585]
  refine hK _ _ ?_
  clear hK K
  have htn : List.take 16 nonce = nonce := List.take_of_length_le (by omega)
  refine awp_reg_seq ?_
  intro K hK
  simp only [↓DN, UP, DF, ashift, aconv, aindexAddr, aindex, aslice, abuiltin, AV.cells, AV.one, reduceCtorEq, ↓reduceIte, nLT, nLE, nEQ, nAdd, nMul, nPow, nSub, zLT, zLE, zNat, RAes1585, hn, htn, show (0 : Int) ≤ 12 from by decide, show (12 : Int) ≤ ((16 : Nat) : Int) from by decide, show ((16 : Nat) : Int) ≤ ((16 : Nat) : Int) from by decide]
  refine acallk (hval _) ?_
  rintro r s4 ⟨rfl, rfl⟩
  simp only [↓AXq_nil, ↓AXq_cons, pval, DX, Nat.reduceBEq, ↓DN, UP, DF, ashift, aconv, aindexAddr, aindex, aslice, abuiltin, AV.cells, AV.one, reduceCtorEq, ↓reduceIte, nLT, nLE, nEQ, nAdd, nMul, nPow, nSub, zLT, zLE, zNat, RAes1585]
  refine hK _ _ ?_
  clear hK K
  refine awp_reg_seq ?_
  intro K hK
  simp only [↓DN, UP, DF, ashift, aconv, aindexAddr, aindex, aslice, abuiltin, AV.cells, AV.one, reduceCtorEq, ↓reduceIte, nLT, nLE, nEQ, nAdd, nMul, nPow, nSub, zLT, zLE, zNat, RAes1585]
  refine hK _ _ ?_
  clear hK K
  refine awp_seq_k ?_
  intro K hK
  refine awp_reg_seq ?_
  intro K hK
  simp only [↓DN, UP, DF, ashift, aconv, aindexAddr, aindex, aslice, abuiltin, AV.cells, AV.one, reduceCtorEq, ↓reduceIte, nLT, nLE, nEQ, nAdd, nMul, nPow, nSub, zLT, zLE, zNat, RAes1585]
  refine hK _ _ ?_
  clear hK K
  refine awp_block ?_
  clear hint hkeys hval
  refine awp_loop (fun E s5 => ∃ j : Nat, 16 * j < text.length + 16 ∧ E 1 = .v (.string ⟨nonce.toArray⟩) ∧ E 2 = .v (.string ⟨text.toArray⟩) ∧ E 7 = .sl 1 256 (intL Aes.sb) .no ∧ E 8 = .sl 1 176 (intL (keysL (List.take 16 key))) .any ∧ E 9 = .v (.int .u64 (Aes.first nonce : Nat)) ∧ E 11 = nV (16 * j) ∧ OutS s4 ((Aes.mask key nonce text).take (16 * j)) (E 10) s5)
    (fun E _ => match E 11 with | .v (.int _ i) => text.length + 16 - i.toNat | _ => 0) ?_ ?_
  · exact ⟨0, by omega, by simp only [upd, initE, Nat.reduceEqDiff, ↓reduceIte]; rfl, by simp only [upd, initE, Nat.reduceEqDiff, ↓reduceIte]; rfl, by simp only [upd, Nat.reduceEqDiff, ↓reduceIte], by simp only [upd, Nat.reduceEqDiff, ↓reduceIte], by simp only [upd, Nat.reduceEqDiff, ↓reduceIte], by simp only [upd, ↓reduceIte]; rfl, by simp only [upd, Nat.reduceEqDiff, ↓reduceIte]; exact OutS.nil s4⟩
  · rintro E1 s5 ⟨j, hj, e1, e2, e7, e8, e9, e11, hout⟩ -
    refine awp_seq_k ?_
    intro K2 hK2
    by_cases hj' : 16 * j < text.length
    · refine awp_reg_seq ?_
      intro K hK
      simp only [↓DN, UP, DF, ashift, aconv, aindexAddr, aindex, aslice, abuiltin, AV.cells, AV.one, reduceCtorEq, ↓reduceIte, nLT, nLE, nEQ, nAdd, nMul, nPow, nSub, zLT, zLE, zNat, RAes1585, e2, e11, bs_size, decide_eq_true (show ((16 * j : Nat) : Int) < (text.length : Int) by omega)]
      refine hK _ _ ?_
      clear hK K
      refine awp_cond_k ?_
      intro X Y hX hY
      simp only [↓DN, UP, DF, ashift, aconv, aindexAddr, aindex, aslice, abuiltin, AV.cells, AV.one, reduceCtorEq, ↓reduceIte, nLT, nLE, nEQ, nAdd, nMul, nPow, nSub, zLT, zLE, zNat, RAes1585, DB]
      refine hX ?_
      clear hX hY X Y
      refine awp_skip ?_
      refine hK2 _ _ ?_
      clear hK2 K2
      refine awp_seq_k ?_
      intro K3 hK3
      refine awp_block ?_
      have hcl := ctr_len nonce hn j
      have hadd := u64_add (Aes.first nonce) j (by omega)
      have hctr : List.take 12 nonce ++ be 4 ((Aes.first nonce + j) % 4294967296) = Aes.ctr nonce j := rfl
      have hbj := hblk j
      have hmj := hmB j
      have hbl := Aes.block_len (key.take 16) (Aes.ctr nonce j)
      refine awp_drw_seq T.mixed [8] (by kernel_rfl) ?_
      intro K hK
      simp only [↓AXq_nil, ↓AXq_cons, pval, DX, Nat.reduceBEq, ↓DN, UP, DF, ashift, aconv, aindexAddr, aindex, aslice, abuiltin, AV.cells, AV.one, reduceCtorEq, ↓reduceIte, nLT, nLE, nEQ, nAdd, nMul, nPow, nSub, zLT, zLE, zNat, RAes1585, e1, e9, e11, hn, quo16 j (by omega), sixteen_ne, show ¬ ((4294967296 : Int) = 0) from by decide, show (0 : Int) ≤ 12 from by decide, show (12 : Int) ≤ ((16 : Nat) : Int) from by decide]
      rw [iconv_u64_nat j (by omega), hadd, rem32]
      refine acallk (refNumber_calls ((Aes.first nonce + j) % 4294967296) 4 (by omega) (by omega) _) ?_
      rintro r s6 ⟨rfl, rfl⟩
      simp only [↓AXq_nil, ↓AXq_cons, pval, DX, Nat.reduceBEq, ↓DN, UP, DF, ashift, aconv, aindexAddr, aindex, aslice, abuiltin, AV.cells, AV.one, reduceCtorEq, ↓reduceIte, nLT, nLE, nEQ, nAdd, nMul, nPow, nSub, zLT, zLE, zNat, RAes1585, length_be, hctr, hn, List.length_take, i64_room (show 12 + 4 < 2 ^ 62 by decide), i64_room (show min 12 16 + 4 < 2 ^ 62 by decide)]
      refine hK _ _ ?_
      clear hK K
      generalize Aes.ctr nonce j = cn at *
      generalize hBK : Aes.block (key.take 16) cn = bk at *
      have hIl2 : (intL cn).length = 16 := by rw [intL_len, hcl]
      refine awp_reg_seq ?_
      intro K hK
      simp only [↓DN, UP, DF, ashift, aconv, aindexAddr, aindex, aslice, abuiltin, AV.cells, AV.one, reduceCtorEq, ↓reduceIte, nLT, nLE, nEQ, nAdd, nMul, nPow, nSub, zLT, zLE, zNat, RAes1585, e7, e8]
      refine acallk (refInts05_calls cn (by omega) _) ?_
      intro r s7 hout2
      have hle7 := hout2.1
      have hio : ∃ t e, r = .sl 1 16 (intL cn) (.own t e) := by
        rcases hout2.2 with ⟨h, _⟩ | ⟨t, e, _, _, rfl⟩
        · rw [h] at hIl2; cases hIl2
        · exact ⟨t, e, by rw [hIl2]⟩
      have houtU : OutS s4 ((Aes.mask key nonce text).take (16 * j)) (E1 10) s7 := hout.later hle7
      obtain ⟨t2, ee2, rfl⟩ := hio
      clear hout2
      simp only [↓AXq_nil, ↓AXq_cons, pval, DX, Nat.reduceBEq, ↓DN, UP, DF, ashift, aconv, aindexAddr, aindex, aslice, abuiltin, AV.cells, AV.one, reduceCtorEq, ↓reduceIte, nLT, nLE, nEQ, nAdd, nMul, nPow, nSub, zLT, zLE, zNat, RAes1585, e7, e8]
      refine acallk (ACalls.weaks (AVs.weak.cons (AV.weak.refl _) (AVs.weak.cons AV.weak_any (AVs.weak.cons AV.weak_any AVs.weak.nil))) (hbj _)) ?_
      rintro r s8 ⟨rfl, rfl⟩
      simp only [↓AXq_nil, ↓AXq_cons, pval, DX, Nat.reduceBEq, ↓DN, UP, DF, ashift, aconv, aindexAddr, aindex, aslice, abuiltin, AV.cells, AV.one, reduceCtorEq, ↓reduceIte, nLT, nLE, nEQ, nAdd, nMul, nPow, nSub, zLT, zLE, zNat, RAes1585]
      refine hK _ _ ?_
      clear hK K
      clear hbj hctr
      refine awp_reg_seq ?_
      intro K hK
      simp only [↓DN, UP, DF, ashift, aconv, aindexAddr, aindex, aslice, abuiltin, AV.cells, AV.one, reduceCtorEq, ↓reduceIte, nLT, nLE, nEQ, nAdd, nMul, nPow, nSub, zLT, zLE, zNat, RAes1585]
      refine hK _ _ ?_
      clear hK K
      refine awp_block ?_
      refine awp_loop (fun E s9 => ∃ k : Nat, k ≤ 16 ∧ 16 * j + k ≤ text.length ∧ E 1 = .v (.string ⟨nonce.toArray⟩) ∧ E 2 = .v (.string ⟨text.toArray⟩) ∧ E 7 = .sl 1 256 (intL Aes.sb) .no ∧ E 8 = .sl 1 176 (intL (keysL (List.take 16 key))) .any ∧ E 9 = .v (.int .u64 (Aes.first nonce : Nat)) ∧ E 11 = nV (16 * j) ∧ E 13 = .sl 1 16 (intL bk) .no ∧ E 14 = nV k ∧ OutS s4 ((Aes.mask key nonce text).take (16 * j + k)) (E 10) s9)
        (fun E _ => match E 14 with | .v (.int _ i) => 16 - i.toNat | _ => 0) ?_ ?_
      · exact ⟨0, by omega, by omega, by simp only [upd, e1, Nat.reduceEqDiff, ↓reduceIte], by simp only [upd, e2, Nat.reduceEqDiff, ↓reduceIte], by simp only [upd, e7, Nat.reduceEqDiff, ↓reduceIte], by simp only [upd, e8, Nat.reduceEqDiff, ↓reduceIte], by simp only [upd, e9, Nat.reduceEqDiff, ↓reduceIte], by simp only [upd, e11, Nat.reduceEqDiff, ↓reduceIte], by simp only [upd, Nat.reduceEqDiff, ↓reduceIte], by simp only [upd, ↓reduceIte]; rfl, by simp only [upd, Nat.reduceEqDiff, ↓reduceIte]; exact houtU⟩
      · clear houtU hout
        rintro E2 s9 ⟨k, hk', hkt, g1, g2, g7, g8, g9, g11, g13, g14, gout⟩ -
        refine awp_seq_k ?_
        intro K6 hK6
        by_cases hk16' : k < 16
        · have a1 := i64_add (16 * j) k (by omega)
          by_cases hkl : 16 * j + k < text.length
          · refine awp_reg_seq ?_
            intro K hK
            simp only [↓DN, UP, DF, ashift, aconv, aindexAddr, aindex, aslice, abuiltin, AV.cells, AV.one, reduceCtorEq, ↓reduceIte, nLT, nLE, nEQ, nAdd, nMul, nPow, nSub, zLT, zLE, zNat, RAes1585, g2, g11, g14, a1, bs_size, decide_eq_true (show (k : Int) < 16 by omega), decide_eq_true (show ((16 * j + k : Nat) : Int) < (text.length : Int) by omega)]
            refine hK _ _ ?_
            clear hK K
            refine awp_cond_k ?_
            intro X Y hX hY
            simp only [↓DN, UP, DF, ashift, aconv, aindexAddr, aindex, aslice, abuiltin, AV.cells, AV.one, reduceCtorEq, ↓reduceIte, nLT, nLE, nEQ, nAdd, nMul, nPow, nSub, zLT, zLE, zNat, RAes1585, DB]
            refine hX ?_
            clear hX hY X Y
            refine awp_skip ?_
            refine hK6 _ _ ?_
            clear hK6 K6
            refine awp_seq_k ?_
            intro K7 hK7
            refine awp_block ?_
            have hms := mask_succ key nonce text (16 * j + k) hkl
            rw [hmj k hk16'] at hms
            have hx : (ByteArray.mk text.toArray)[16 * j + k]? = some (text.getD (16 * j + k) 0) := by rw [bs_get text _ hkl]; simp [List.getElem?_eq_getElem hkl]
            have db := intL_drop (l := bk) k (by omega)
            have hBl : (intL bk).length = 16 := by rw [intL_len, hbl]
            have hml : ((Aes.mask key nonce text).take (16 * j + k)).length ≤ 2 ^ 30 := by rw [List.length_take, Aes.mask_len]; omega
            generalize text.getD (16 * j + k) 0 = x at *
            generalize bk.getD k 0 = y at *
            generalize hBB : intL bk = BB at *
            have m0 : (0 : Int) ≤ ((16 * j + k : Nat) : Int) := by omega
            have m1 : (0 : Int) ≤ (k : Int) := by omega
            have m2 : (k : Int) < ((16 : Nat) : Int) := by omega
            refine awp_drw_end T.mixed [13] (by kernel_rfl) ?_
            intro K hK
            simp only [↓AXq_nil, ↓AXq_cons, pval, DX, Nat.reduceBEq, ↓DN, UP, DF, ashift, aconv, aindexAddr, aindex, aslice, abuiltin, AV.cells, AV.one, reduceCtorEq, ↓reduceIte, nLT, nLE, nEQ, nAdd, nMul, nPow, nSub, zLT, zLE, zNat, RAes1585, g2, g11, g13, g14, a1, m0, m1, m2, hx, db, byteV, b_self, b_xor, List.replicate_one]
            refine aappend_out (ds := [x ^^^ y]) gout rfl rfl T.c5 T.b5 (by simp only [List.length_cons, List.length_nil]; omega) ?_
            intro r2 s10 gout2
            refine hK _ _ ?_
            clear hK K
            simp only [blockQ, thenQ, if_true, if_false]
            refine hK7 _ _ ?_
            clear hK7 K7
            refine awp_reg_end ?_
            intro K hK
            simp only [↓DN, UP, DF, ashift, aconv, aindexAddr, aindex, aslice, abuiltin, AV.cells, AV.one, reduceCtorEq, ↓reduceIte, nLT, nLE, nEQ, nAdd, nMul, nPow, nSub, zLT, zLE, zNat, RAes1585, g14, w_succ k (by omega)]
            refine hK _ _ ?_
            clear hK K
            refine ⟨⟨k + 1, by omega, by omega, by simp only [upd, g1, Nat.reduceEqDiff, ↓reduceIte], by simp only [upd, g2, Nat.reduceEqDiff, ↓reduceIte], by simp only [upd, g7, Nat.reduceEqDiff, ↓reduceIte], by simp only [upd, g8, Nat.reduceEqDiff, ↓reduceIte], by simp only [upd, g9, Nat.reduceEqDiff, ↓reduceIte], by simp only [upd, g11, Nat.reduceEqDiff, ↓reduceIte], by simp only [upd, g13, Nat.reduceEqDiff, ↓reduceIte], by simp only [upd, ↓reduceIte], ?_⟩, ?_⟩
            · simp only [upd, Nat.reduceEqDiff, ↓reduceIte]
              rw [show 16 * j + (k + 1) = 16 * j + k + 1 from rfl, hms]
              exact gout2
            · simp only [g14, upd, ↓reduceIte]
              omega
          · refine awp_reg_seq ?_
            intro K hK
            simp only [↓DN, UP, DF, ashift, aconv, aindexAddr, aindex, aslice, abuiltin, AV.cells, AV.one, reduceCtorEq, ↓reduceIte, nLT, nLE, nEQ, nAdd, nMul, nPow, nSub, zLT, zLE, zNat, RAes1585, g2, g11, g14, a1, bs_size, decide_eq_true (show (k : Int) < 16 by omega), decide_eq_false (show ¬ ((16 * j + k : Nat) : Int) < (text.length : Int) by omega)]
            refine hK _ _ ?_
            clear hK K
            refine awp_cond_k ?_
            intro X Y hX hY
            simp only [↓DN, UP, DF, ashift, aconv, aindexAddr, aindex, aslice, abuiltin, AV.cells, AV.one, reduceCtorEq, ↓reduceIte, nLT, nLE, nEQ, nAdd, nMul, nPow, nSub, zLT, zLE, zNat, RAes1585, DB]
            refine hY ?_
            clear hX hY X Y
            refine awp_exit ?_
            simp only [thenQ, blockQ, if_true, if_false]
            clear hK6 K6
            refine hK3 _ _ ?_
            clear hK3 K3
            refine awp_reg_end ?_
            intro K hK
            simp only [↓DN, UP, DF, ashift, aconv, aindexAddr, aindex, aslice, abuiltin, AV.cells, AV.one, reduceCtorEq, ↓reduceIte, nLT, nLE, nEQ, nAdd, nMul, nPow, nSub, zLT, zLE, zNat, RAes1585, g11, i64_add (16 * j) 16 (by omega), show iadd .i64 ((16 * j : Nat) : Int) 16 = ((16 * j + 16 : Nat) : Int) from i64_add (16 * j) 16 (by omega)]
            refine hK _ _ ?_
            clear hK K
            refine ⟨⟨j + 1, by omega, by simp only [upd, g1, Nat.reduceEqDiff, ↓reduceIte], by simp only [upd, g2, Nat.reduceEqDiff, ↓reduceIte], by simp only [upd, g7, Nat.reduceEqDiff, ↓reduceIte], by simp only [upd, g8, Nat.reduceEqDiff, ↓reduceIte], by simp only [upd, g9, Nat.reduceEqDiff, ↓reduceIte], by simp only [upd, ↓reduceIte]; rfl, ?_⟩, ?_⟩
            · simp only [upd, Nat.reduceEqDiff, ↓reduceIte]
              rw [mask_takeM key nonce text _ (by omega)]
              rw [mask_takeM key nonce text _ (by omega)] at gout
              exact gout
            · simp only [e11, upd, ↓reduceIte]
              omega
        · obtain rfl : k = 16 := by omega
          · refine awp_reg_seq ?_
            intro K hK
            simp only [↓DN, UP, DF, ashift, aconv, aindexAddr, aindex, aslice, abuiltin, AV.cells, AV.one, reduceCtorEq, ↓reduceIte, nLT, nLE, nEQ, nAdd, nMul, nPow, nSub, zLT, zLE, zNat, RAes1585, g2, g11, g14, decide_eq_false (show ¬ ((16 : Nat) : Int) < 16 by decide)]
            refine hK _ _ ?_
            clear hK K
            refine awp_cond_k ?_
            intro X Y hX hY
            simp only [↓DN, UP, DF, ashift, aconv, aindexAddr, aindex, aslice, abuiltin, AV.cells, AV.one, reduceCtorEq, ↓reduceIte, nLT, nLE, nEQ, nAdd, nMul, nPow, nSub, zLT, zLE, zNat, RAes1585, DB]
            refine hY ?_
            clear hX hY X Y
            refine awp_exit ?_
            simp only [thenQ, blockQ, if_true, if_false]
            clear hK6 K6
            refine hK3 _ _ ?_
            clear hK3 K3
            refine awp_reg_end ?_
            intro K hK
            simp only [↓DN, UP, DF, ashift, aconv, aindexAddr, aindex, aslice, abuiltin, AV.cells, AV.one, reduceCtorEq, ↓reduceIte, nLT, nLE, nEQ, nAdd, nMul, nPow, nSub, zLT, zLE, zNat, RAes1585, g11, i64_add (16 * j) 16 (by omega), show iadd .i64 ((16 * j : Nat) : Int) 16 = ((16 * j + 16 : Nat) : Int) from i64_add (16 * j) 16 (by omega)]
            refine hK _ _ ?_
            clear hK K
            refine ⟨⟨j + 1, by omega, by simp only [upd, g1, Nat.reduceEqDiff, ↓reduceIte], by simp only [upd, g2, Nat.reduceEqDiff, ↓reduceIte], by simp only [upd, g7, Nat.reduceEqDiff, ↓reduceIte], by simp only [upd, g8, Nat.reduceEqDiff, ↓reduceIte], by simp only [upd, g9, Nat.reduceEqDiff, ↓reduceIte], by simp only [upd, ↓reduceIte]; rfl, ?_⟩, ?_⟩
            · simp only [upd, Nat.reduceEqDiff, ↓reduceIte]
              exact gout
            · simp only [e11, upd, ↓reduceIte]
              omega
    · refine awp_reg_seq ?_
      intro K hK
      simp only [↓DN, UP, DF, ashift, aconv, aindexAddr, aindex, aslice, abuiltin, AV.cells, AV.one, reduceCtorEq, ↓reduceIte, nLT, nLE, nEQ, nAdd, nMul, nPow, nSub, zLT, zLE, zNat, RAes1585, e2, e11, bs_size, decide_eq_false (show ¬ ((16 * j : Nat) : Int) < (text.length : Int) by omega)]
      refine hK _ _ ?_
      clear hK K
      refine awp_cond_k ?_
      intro X Y hX hY
      simp only [↓DN, UP, DF, ashift, aconv, aindexAddr, aindex, aslice, abuiltin, AV.cells, AV.one, reduceCtorEq, ↓reduceIte, nLT, nLE, nEQ, nAdd, nMul, nPow, nSub, zLT, zLE, zNat, RAes1585, DB]
      refine hY ?_
      clear hX hY X Y
      refine awp_exit ?_
      simp only [thenQ, blockQ, if_true]
      clear hK2 K2
      refine hK _ _ ?_
      clear hK K
      rw [mask_takeM key nonce text _ (by omega)] at hout
      have hle5 := AS.le.trans hle2 hout.1
      rcases hout.2 with ⟨h1, h2⟩ | ⟨t3, e3, _, _, h2⟩
      · rw [h1]
        refine awp_reg_seq ?_
        intro K hK
        simp only [↓DN, UP, DF, ashift, aconv, aindexAddr, aindex, aslice, abuiltin, AV.cells, AV.one, reduceCtorEq, ↓reduceIte, nLT, nLE, nEQ, nAdd, nMul, nPow, nSub, zLT, zLE, zNat, RAes1585, h2]
        refine hK _ _ ?_
        clear hK K
        refine awp_ret ?_
        simp only [retQ, AEnds, aresL, ares, List.toList_toArray, ↓upd_same]; try simp only [↓DN, UP, DF, ashift, aconv, aindexAddr, aindex, aslice, abuiltin, AV.cells, AV.one, reduceCtorEq, ↓reduceIte, nLT, nLE, nEQ, nAdd, nMul, nPow, nSub, zLT, zLE, zNat, RAes1585, DT]
        exact ⟨_, s1, AV.weak.refl _, hle5, rfl, rfl⟩
      · refine awp_reg_seq ?_
        intro K hK
        simp only [↓DN, UP, DF, ashift, aconv, aindexAddr, aindex, aslice, abuiltin, AV.cells, AV.one, reduceCtorEq, ↓reduceIte, nLT, nLE, nEQ, nAdd, nMul, nPow, nSub, zLT, zLE, zNat, RAes1585, h2]
        refine hK _ _ ?_
        clear hK K
        refine awp_ret ?_
        simp only [retQ, AEnds, aresL, ares, List.toList_toArray, ↓upd_same]; try simp only [↓DN, UP, DF, ashift, aconv, aindexAddr, aindex, aslice, abuiltin, AV.cells, AV.one, reduceCtorEq, ↓reduceIte, nLT, nLE, nEQ, nAdd, nMul, nPow, nSub, zLT, zLE, zNat, RAes1585, DT]
        exact ⟨_, s1, AV.weak.refl _, hle5, rfl, rfl⟩

end Go.Proofs.YtooeklnbdgoneaaDoor


set_option autoImplicit false
namespace Go.Proofs.YtooeklnbdgoneaaDoor
open Go Go.AM Go.Proofs

theorem RAes1686 : type_of% (And.intro (And.intro (And.intro (And.intro (And.intro @Tryd.underlying3 T.c3) (And.intro T.g3 T.b3)) (And.intro (And.intro T.z3 @Tryd.underlying9) (And.intro T.c9 T.g9))) (And.intro (And.intro (And.intro T.b9 T.z9) (And.intro @Tryd.underlying41 T.c41)) (And.intro (And.intro T.g41 T.b41) (And.intro T.z41 (And.intro T.k59 T.k94))))) Tryd.ntmps86) :=
  (And.intro (And.intro (And.intro (And.intro (And.intro @Tryd.underlying3 T.c3) (And.intro T.g3 T.b3)) (And.intro (And.intro T.z3 @Tryd.underlying9) (And.intro T.c9 T.g9))) (And.intro (And.intro (And.intro T.b9 T.z9) (And.intro @Tryd.underlying41 T.c41)) (And.intro (And.intro T.g41 T.b41) (And.intro T.z41 (And.intro T.k59 T.k94))))) Tryd.ntmps86)
theorem RAes1655 : type_of% (And.intro (And.intro (And.intro (And.intro @Tryd.underlying3 (And.intro T.c3 T.g3)) (And.intro T.b3 (And.intro T.z3 @Tryd.underlying9))) (And.intro (And.intro T.c9 (And.intro T.g9 T.b9)) (And.intro T.z9 (And.intro T.k85 T.k86)))) Tryd.ntmps55) :=
  (And.intro (And.intro (And.intro (And.intro @Tryd.underlying3 (And.intro T.c3 T.g3)) (And.intro T.b3 (And.intro T.z3 @Tryd.underlying9))) (And.intro (And.intro T.c9 (And.intro T.g9 T.b9)) (And.intro T.z9 (And.intro T.k85 T.k86)))) Tryd.ntmps55)

variable {Γ : Nat → List AV}

theorem bneL_self (l : List UInt8) : (l == l) = true := by simp
theorem tag_eq (key nonce beside masked : List UInt8) : Aes.tag key nonce beside masked = (Mac.tag (key.drop 16) (be 4 beside.length ++ (beside ++ (nonce ++ masked)))).take 16 := rfl

set_option maxHeartbeats 4000000 in
theorem refSTag_calls (key nonce beside masked : List UInt8) (hk : key.length = 48) (hn : nonce.length = 16) (hb : beside.length ≤ 2 ^ 30) (hm : masked.length ≤ 2 ^ 30) (s : AS) :
    ACalls Tryd.prog Γ 86 [.v (.string ⟨key.toArray⟩), .v (.string ⟨nonce.toArray⟩), .v (.string ⟨beside.toArray⟩), .v (.string ⟨masked.toArray⟩)] s (fun r s' => r = .v (.string ⟨(Aes.tag key nonce beside masked).toArray⟩) ∧ s' = s) := by
  refine acalls_body Tryd.func86 rfl Tryd.ntmps86 Tryd.results86 (by simp) ?_
  have htk : List.take 48 key = key := List.take_of_length_le (by omega)
  have htag := fun s => refTag_calls (Γ := Γ) (key.drop 16) (be 4 beside.length ++ (beside ++ (nonce ++ masked))) (by simp [hk]) (by simp [hn]; omega) s
  have htl := Mac.tag_len (key.drop 16) (be 4 beside.length ++ (beside ++ (nonce ++ masked)))
  rw [tag_eq]
  generalize hT : Mac.tag (key.drop 16) (be 4 beside.length ++ (beside ++ (nonce ++ masked))) = T0 at *
  refine awp_reg_seq ?_
  intro K hK
  simp only [↓DN, UP, DF, ashift, aconv, aindexAddr, aindex, aslice, abuiltin, AV.cells, AV.one, reduceCtorEq, ↓reduceIte, nLT, nLE, nEQ, nAdd, nMul, nPow, nSub, zLT, zLE, zNat, RAes1686]
  refine hK _ _ ?_
  clear hK K
  refine awp_drw_seq T.mixed [5, 12] (by kernel_rfl) ?_
  intro K hK
  simp only [↓AXq_nil, ↓AXq_cons, pval, DX, Nat.reduceBEq, ↓DN, UP, DF, ashift, aconv, aindexAddr, aindex, aslice, abuiltin, AV.cells, AV.one, reduceCtorEq, ↓reduceIte, nLT, nLE, nEQ, nAdd, nMul, nPow, nSub, zLT, zLE, zNat, RAes1686, hk, htk, bs_size, show (0 : Int) ≤ 16 from by decide, show (16 : Int) ≤ ((48 : Nat) : Int) from by decide, show ((48 : Nat) : Int) ≤ ((48 : Nat) : Int) from by decide, iconv_u64_nat beside.length (show beside.length < 2 ^ 64 by omega)]
  refine acallk (refNumber_calls beside.length 4 (by omega) (by omega) _) ?_
  rintro r s1 ⟨rfl, rfl⟩
  simp only [↓AXq_nil, ↓AXq_cons, pval, DX, Nat.reduceBEq, ↓DN, UP, DF, ashift, aconv, aindexAddr, aindex, aslice, abuiltin, AV.cells, AV.one, reduceCtorEq, ↓reduceIte, nLT, nLE, nEQ, nAdd, nMul, nPow, nSub, zLT, zLE, zNat, RAes1686, length_be, hn, i64_room (show 4 + beside.length < 2 ^ 62 by omega), i64_room (show 4 + beside.length + 16 < 2 ^ 62 by omega), i64_room (show 4 + (beside.length + 16) + masked.length < 2 ^ 62 by omega), i64_room (show 4 + beside.length + 16 + masked.length < 2 ^ 62 by omega)]
  refine acallk (htag _) ?_
  rintro r s2 ⟨rfl, rfl⟩
  simp only [↓AXq_nil, ↓AXq_cons, pval, DX, Nat.reduceBEq, ↓DN, UP, DF, ashift, aconv, aindexAddr, aindex, aslice, abuiltin, AV.cells, AV.one, reduceCtorEq, ↓reduceIte, nLT, nLE, nEQ, nAdd, nMul, nPow, nSub, zLT, zLE, zNat, RAes1686, htl, show (0 : Int) ≤ 16 from by decide, show (16 : Int) ≤ ((32 : Nat) : Int) from by decide]
  refine hK _ _ ?_
  clear hK K
  refine awp_ret ?_
  simp only [retQ, AEnds, aresL, ares, List.toList_toArray, ↓upd_same]; try simp only [↓DN, UP, DF, ashift, aconv, aindexAddr, aindex, aslice, abuiltin, AV.cells, AV.one, reduceCtorEq, ↓reduceIte, nLT, nLE, nEQ, nAdd, nMul, nPow, nSub, zLT, zLE, zNat, RAes1686, DT]
  exact ⟨_, _, AV.weak.refl _, AS.le.refl _, rfl, rfl⟩

/-- What is opened: a text, and an error's number. -/
def openedT (key nonce beside z : List UInt8) : List UInt8 := if z.length < 16 then [] else if Aes.tag key nonce beside (z.take (z.length - 16)) = z.drop (z.length - 16) then Aes.mask key nonce (z.take (z.length - 16)) else []
def openedE (key nonce beside z : List UInt8) : Nat := if z.length < 16 then 10 else if Aes.tag key nonce beside (z.take (z.length - 16)) = z.drop (z.length - 16) then 0 else 14
theorem neq_list (a b : List UInt8) (h : a ≠ b) : (a == b) = false := by simpa using h

set_option maxHeartbeats 4000000 in
theorem refOpen_calls (key nonce beside z : List UInt8) (hk : key.length = 48) (hn : nonce.length = 16) (hb : beside.length ≤ 2 ^ 30) (hz : z.length ≤ 2 ^ 30) (s : AS) :
    ACalls Tryd.prog Γ 55 [.v (.string ⟨key.toArray⟩), .v (.string ⟨nonce.toArray⟩), .v (.string ⟨beside.toArray⟩), .v (.string ⟨z.toArray⟩)] s (fun r s' => r = .tup [.v (.string ⟨(openedT key nonce beside z).toArray⟩), .v (.int .i64 ((openedE key nonce beside z : Nat) : Int))] ∧ s' = s) := by
  refine acalls_body Tryd.func55 rfl Tryd.ntmps55 Tryd.results55 (by simp) ?_
  refine awp_reg_seq ?_
  intro K hK
  simp only [↓DN, UP, DF, ashift, aconv, aindexAddr, aindex, aslice, abuiltin, AV.cells, AV.one, reduceCtorEq, ↓reduceIte, nLT, nLE, nEQ, nAdd, nMul, nPow, nSub, zLT, zLE, zNat, RAes1655]
  refine hK _ _ ?_
  clear hK K
  refine awp_seq_k ?_
  intro K hK
  by_cases h16 : z.length < 16
  · have h1 : openedT key nonce beside z = [] := by unfold openedT; rw [if_pos h16]
    have h2 : openedE key nonce beside z = 10 := by unfold openedE; rw [if_pos h16]
    rw [h1, h2]
    refine awp_reg_seq ?_
    intro K hK
    simp only [↓DN, UP, DF, ashift, aconv, aindexAddr, aindex, aslice, abuiltin, AV.cells, AV.one, reduceCtorEq, ↓reduceIte, nLT, nLE, nEQ, nAdd, nMul, nPow, nSub, zLT, zLE, zNat, RAes1655, bs_size, decide_eq_true (show (z.length : Int) < 16 by omega)]
    refine hK _ _ ?_
    clear hK K
    refine awp_cond_k ?_
    intro X Y hX hY
    simp only [↓DN, UP, DF, ashift, aconv, aindexAddr, aindex, aslice, abuiltin, AV.cells, AV.one, reduceCtorEq, ↓reduceIte, nLT, nLE, nEQ, nAdd, nMul, nPow, nSub, zLT, zLE, zNat, RAes1655, DB]
    refine hX ?_
    clear hX hY X Y
    refine awp_reg_seq ?_
    intro K hK
    simp only [↓DN, UP, DF, ashift, aconv, aindexAddr, aindex, aslice, abuiltin, AV.cells, AV.one, reduceCtorEq, ↓reduceIte, nLT, nLE, nEQ, nAdd, nMul, nPow, nSub, zLT, zLE, zNat, RAes1655]
    refine hK _ _ ?_
    clear hK K
    refine awp_ret ?_
    try simp only [thenQ, blockQ]
    simp only [retQ, AEnds, aresL, ares, List.toList_toArray, ↓upd_same]; try simp only [↓DN, UP, DF, ashift, aconv, aindexAddr, aindex, aslice, abuiltin, AV.cells, AV.one, reduceCtorEq, ↓reduceIte, nLT, nLE, nEQ, nAdd, nMul, nPow, nSub, zLT, zLE, zNat, RAes1655, DT]
    exact ⟨_, _, AV.weak.refl _, AS.le.refl _, rfl, rfl⟩
  · have hsub : isub .i64 (z.length : Int) 16 = ((z.length - 16 : Nat) : Int) := i64_sub z.length 16 (by omega) (by omega)
    have htz : List.take z.length z = z := List.take_length
    have m0 : (0 : Int) ≤ ((z.length - 16 : Nat) : Int) := by omega
    have m1 : ((z.length - 16 : Nat) : Int) ≤ (z.length : Int) := by omega
    have m2 : (z.length : Int) ≤ (z.length : Int) := Int.le_refl _
    refine awp_reg_seq ?_
    intro K hK
    simp only [↓DN, UP, DF, ashift, aconv, aindexAddr, aindex, aslice, abuiltin, AV.cells, AV.one, reduceCtorEq, ↓reduceIte, nLT, nLE, nEQ, nAdd, nMul, nPow, nSub, zLT, zLE, zNat, RAes1655, bs_size, decide_eq_false (show ¬ (z.length : Int) < 16 by omega)]
    refine hK _ _ ?_
    clear hK K
    refine awp_cond_k ?_
    intro X Y hX hY
    simp only [↓DN, UP, DF, ashift, aconv, aindexAddr, aindex, aslice, abuiltin, AV.cells, AV.one, reduceCtorEq, ↓reduceIte, nLT, nLE, nEQ, nAdd, nMul, nPow, nSub, zLT, zLE, zNat, RAes1655, DB]
    refine hY ?_
    clear hX hY X Y
    refine awp_skip ?_
    refine hK _ _ ?_
    clear hK K
    refine awp_reg_seq ?_
    intro K hK
    simp only [↓DN, UP, DF, ashift, aconv, aindexAddr, aindex, aslice, abuiltin, AV.cells, AV.one, reduceCtorEq, ↓reduceIte, nLT, nLE, nEQ, nAdd, nMul, nPow, nSub, zLT, zLE, zNat, RAes1655, bs_size, hsub]
    refine hK _ _ ?_
    clear hK K
    refine awp_seq_k ?_
    intro K hK
    have c2 := fun s => refSTag_calls (Γ := Γ) key nonce beside (z.take (z.length - 16)) hk hn hb (by rw [List.length_take]; omega) s
    have c1 := fun s => refMask_calls (Γ := Γ) key nonce (z.take (z.length - 16)) hk hn (by rw [List.length_take]; omega) s
    refine awp_drw_seq T.mixed [6] (by kernel_rfl) ?_
    intro K hK
    simp only [↓AXq_nil, ↓AXq_cons, pval, DX, Nat.reduceBEq, ↓DN, UP, DF, ashift, aconv, aindexAddr, aindex, aslice, abuiltin, AV.cells, AV.one, reduceCtorEq, ↓reduceIte, nLT, nLE, nEQ, nAdd, nMul, nPow, nSub, zLT, zLE, zNat, RAes1655, bs_size, htz, m0, m1, m2]
    refine acallk (c2 _) ?_
    rintro r s2 ⟨rfl, rfl⟩
    by_cases ht : Aes.tag key nonce beside (z.take (z.length - 16)) = z.drop (z.length - 16)
    · have h1 : openedT key nonce beside z = Aes.mask key nonce (z.take (z.length - 16)) := by unfold openedT; rw [if_neg h16, if_pos ht]
      have h2 : openedE key nonce beside z = 0 := by unfold openedE; rw [if_neg h16, if_pos ht]
      rw [ht]
      simp only [↓AXq_nil, ↓AXq_cons, pval, DX, Nat.reduceBEq, ↓DN, UP, DF, ashift, aconv, aindexAddr, aindex, aslice, abuiltin, AV.cells, AV.one, reduceCtorEq, ↓reduceIte, nLT, nLE, nEQ, nAdd, nMul, nPow, nSub, zLT, zLE, zNat, RAes1655, bs_size, htz, m0, m1, m2, bneL_self]
      refine hK _ _ ?_
      clear hK K
      refine awp_cond_k ?_
      intro X Y hX hY
      simp only [↓DN, UP, DF, ashift, aconv, aindexAddr, aindex, aslice, abuiltin, AV.cells, AV.one, reduceCtorEq, ↓reduceIte, nLT, nLE, nEQ, nAdd, nMul, nPow, nSub, zLT, zLE, zNat, RAes1655, DB]
      refine hY ?_
      clear hX hY X Y
      refine awp_skip ?_
      refine hK _ _ ?_
      clear hK K
      refine awp_reg_seq ?_
      intro K hK
      simp only [↓DN, UP, DF, ashift, aconv, aindexAddr, aindex, aslice, abuiltin, AV.cells, AV.one, reduceCtorEq, ↓reduceIte, nLT, nLE, nEQ, nAdd, nMul, nPow, nSub, zLT, zLE, zNat, RAes1655, bs_size, htz, m0, m1, m2]
      refine acallk (c1 _) ?_
      rintro r s3 ⟨rfl, rfl⟩
      simp only [↓AXq_nil, ↓AXq_cons, pval, DX, Nat.reduceBEq, ↓DN, UP, DF, ashift, aconv, aindexAddr, aindex, aslice, abuiltin, AV.cells, AV.one, reduceCtorEq, ↓reduceIte, nLT, nLE, nEQ, nAdd, nMul, nPow, nSub, zLT, zLE, zNat, RAes1655]
      refine hK _ _ ?_
      clear hK K
      refine awp_ret ?_
      simp only [retQ, AEnds, aresL, ares, List.toList_toArray, ↓upd_same]; try simp only [↓DN, UP, DF, ashift, aconv, aindexAddr, aindex, aslice, abuiltin, AV.cells, AV.one, reduceCtorEq, ↓reduceIte, nLT, nLE, nEQ, nAdd, nMul, nPow, nSub, zLT, zLE, zNat, RAes1655, DT]
      rw [h1, h2]
      exact ⟨_, _, AV.weak.refl _, AS.le.refl _, rfl, rfl⟩
    · have h1 : openedT key nonce beside z = [] := by unfold openedT; rw [if_neg h16, if_neg ht]
      have h2 : openedE key nonce beside z = 14 := by unfold openedE; rw [if_neg h16, if_neg ht]
      simp only [↓AXq_nil, ↓AXq_cons, pval, DX, Nat.reduceBEq, ↓DN, UP, DF, ashift, aconv, aindexAddr, aindex, aslice, abuiltin, AV.cells, AV.one, reduceCtorEq, ↓reduceIte, nLT, nLE, nEQ, nAdd, nMul, nPow, nSub, zLT, zLE, zNat, RAes1655, bs_size, htz, m0, m1, m2, neq_list _ _ ht]
      refine hK _ _ ?_
      clear hK K
      refine awp_cond_k ?_
      intro X Y hX hY
      simp only [↓DN, UP, DF, ashift, aconv, aindexAddr, aindex, aslice, abuiltin, AV.cells, AV.one, reduceCtorEq, ↓reduceIte, nLT, nLE, nEQ, nAdd, nMul, nPow, nSub, zLT, zLE, zNat, RAes1655, DB]
      refine hX ?_
      clear hX hY X Y
      refine awp_reg_seq ?_
      intro K hK
      simp only [↓DN, UP, DF, ashift, aconv, aindexAddr, aindex, aslice, abuiltin, AV.cells, AV.one, reduceCtorEq, ↓reduceIte, nLT, nLE, nEQ, nAdd, nMul, nPow, nSub, zLT, zLE, zNat, RAes1655]
      refine hK _ _ ?_
      clear hK K
      refine awp_ret ?_
      try simp only [thenQ, blockQ]
      simp only [retQ, AEnds, aresL, ares, List.toList_toArray, ↓upd_same]; try simp only [↓DN, UP, DF, ashift, aconv, aindexAddr, aindex, aslice, abuiltin, AV.cells, AV.one, reduceCtorEq, ↓reduceIte, nLT, nLE, nEQ, nAdd, nMul, nPow, nSub, zLT, zLE, zNat, RAes1655, DT]
      rw [h1, h2]
      exact ⟨_, _, AV.weak.refl _, AS.le.refl _, rfl, rfl⟩

end Go.Proofs.YtooeklnbdgoneaaDoor


set_option autoImplicit false
namespace Go.Proofs.YtooeklnbdgoneaaDoor
open Go Go.AM Go.Proofs

theorem RAes1770 : type_of% (And.intro (And.intro (And.intro (And.intro @Tryd.underlying5 T.c5) (And.intro T.g5 (And.intro T.b5 T.z5))) (And.intro (And.intro @Tryd.underlying22 (And.intro T.c22 T.g22)) (And.intro T.b22 (And.intro T.z22 T.s22)))) Tryd.ntmps70) :=
  (And.intro (And.intro (And.intro (And.intro @Tryd.underlying5 T.c5) (And.intro T.g5 (And.intro T.b5 T.z5))) (And.intro (And.intro @Tryd.underlying22 (And.intro T.c22 T.g22)) (And.intro T.b22 (And.intro T.z22 T.s22)))) Tryd.ntmps70)
theorem RAes1783 : type_of% (And.intro (And.intro (And.intro (And.intro (And.intro (And.intro @Tryd.underlying3 T.c3) (And.intro T.g3 (And.intro T.b3 T.z3))) (And.intro (And.intro @Tryd.underlying5 (And.intro T.c5 T.g5)) (And.intro T.b5 (And.intro T.z5 @Tryd.underlying22)))) (And.intro (And.intro (And.intro T.c22 (And.intro T.g22 T.b22)) (And.intro T.z22 (And.intro T.s22 @Tryd.underlying30))) (And.intro (And.intro T.c30 (And.intro T.g30 T.b30)) (And.intro T.z30 (And.intro @Tryd.underlying66 T.c66))))) (And.intro (And.intro (And.intro (And.intro T.g66 (And.intro T.b66 T.z66)) (And.intro T.p66 (And.intro @Tryd.underlying81 T.c81))) (And.intro (And.intro T.g81 (And.intro T.b81 T.z81)) (And.intro @Tryd.underlying108 (And.intro T.c108 T.g108)))) (And.intro (And.intro (And.intro T.b108 (And.intro T.z108 T.h108)) (And.intro @Tryd.underlying138 (And.intro T.c138 T.g138))) (And.intro (And.intro T.b138 (And.intro T.z138 T.k104)) (And.intro T.k70 (And.intro T.k37 T.k105)))))) Tryd.ntmps83) :=
  (And.intro (And.intro (And.intro (And.intro (And.intro (And.intro @Tryd.underlying3 T.c3) (And.intro T.g3 (And.intro T.b3 T.z3))) (And.intro (And.intro @Tryd.underlying5 (And.intro T.c5 T.g5)) (And.intro T.b5 (And.intro T.z5 @Tryd.underlying22)))) (And.intro (And.intro (And.intro T.c22 (And.intro T.g22 T.b22)) (And.intro T.z22 (And.intro T.s22 @Tryd.underlying30))) (And.intro (And.intro T.c30 (And.intro T.g30 T.b30)) (And.intro T.z30 (And.intro @Tryd.underlying66 T.c66))))) (And.intro (And.intro (And.intro (And.intro T.g66 (And.intro T.b66 T.z66)) (And.intro T.p66 (And.intro @Tryd.underlying81 T.c81))) (And.intro (And.intro T.g81 (And.intro T.b81 T.z81)) (And.intro @Tryd.underlying108 (And.intro T.c108 T.g108)))) (And.intro (And.intro (And.intro T.b108 (And.intro T.z108 T.h108)) (And.intro @Tryd.underlying138 (And.intro T.c138 T.g138))) (And.intro (And.intro T.b138 (And.intro T.z138 T.k104)) (And.intro T.k70 (And.intro T.k37 T.k105)))))) Tryd.ntmps83)

variable {Γ : Nat → List AV}

set_option maxHeartbeats 1000000 in
theorem sCloneO_no (l : List UInt8) (s : AS) (h0 : l.length ≠ 0) (hl : l.length ≤ 2 ^ 45) : ACalls Tryd.prog Γ 70 [bytesV l .no] s (fun r s' => ∃ o cap, s.objs o = none ∧ r = .osl o 0 1 l.length cap ∧ s' = s.set o (l.map byteV)) := by
  refine acalls_body Tryd.func70 rfl Tryd.ntmps70 Tryd.results70 (by simp) ?_
  unfold bytesV
  refine awp_reg_seq ?_
  intro K hK
  simp only [↓DN, UP, DF, ashift, aconv, aindexAddr, aindex, aslice, abuiltin, AV.cells, AV.one, reduceCtorEq, ↓reduceIte, nLT, nLE, nEQ, nAdd, nMul, nPow, nSub, zLT, zLE, zNat, RAes1770]
  refine hK _ _ ?_
  clear hK K
  refine awp_seq_k ?_
  intro K hK
  refine awp_reg_seq ?_
  intro K hK
  simp only [↓DN, UP, DF, ashift, aconv, aindexAddr, aindex, aslice, abuiltin, AV.cells, AV.one, reduceCtorEq, ↓reduceIte, nLT, nLE, nEQ, nAdd, nMul, nPow, nSub, zLT, zLE, zNat, RAes1770, Bool.false_eq_true, and_false]
  refine hK _ _ ?_
  clear hK K
  refine awp_cond_k ?_
  intro X Y hX hY
  simp only [↓DN, UP, DF, ashift, aconv, aindexAddr, aindex, aslice, abuiltin, AV.cells, AV.one, reduceCtorEq, ↓reduceIte, nLT, nLE, nEQ, nAdd, nMul, nPow, nSub, zLT, zLE, zNat, RAes1770, DB]
  refine hY ?_
  clear hX hY X Y
  refine awp_skip ?_
  refine hK _ _ ?_
  clear hK K
  refine awp_reg_clone (x := .tmp 5) (y := .tmp 6) (T := 22) (xT := 22) (e := 5) (z := [.v (.int .u8 0)]) (d := 7) rfl rfl rfl (by decide) Tryd.underlying22 (by simp only [↓DN, UP, DF, ashift, aconv, aindexAddr, aindex, aslice, abuiltin, AV.cells, AV.one, reduceCtorEq, ↓reduceIte, nLT, nLE, nEQ, nAdd, nMul, nPow, nSub, zLT, zLE, zNat, RAes1770]; try rfl) (by simp only [↓DN, UP, DF, ashift, aconv, aindexAddr, aindex, aslice, abuiltin, AV.cells, AV.one, reduceCtorEq, ↓reduceIte, nLT, nLE, nEQ, nAdd, nMul, nPow, nSub, zLT, zLE, zNat, RAes1770]; try rfl) (by rw [T.c5]; decide) (by rw [T.c5]; rfl) ?_
  simp only [↓DN, UP, DF, ashift, aconv, aindexAddr, aindex, aslice, abuiltin, AV.cells, AV.one, reduceCtorEq, ↓reduceIte, nLT, nLE, nEQ, nAdd, nMul, nPow, nSub, zLT, zLE, zNat, RAes1770, asrc]
  refine ⟨_, _, rfl, h0, by omega, by omega, ?_⟩
  intro ob cap hob hcap
  refine awp_ret ?_
  simp only [retQ, AEnds, aresL, ares, List.toList_toArray, ↓upd_same]; try simp only [↓DN, UP, DF, ashift, aconv, aindexAddr, aindex, aslice, abuiltin, AV.cells, AV.one, reduceCtorEq, ↓reduceIte, nLT, nLE, nEQ, nAdd, nMul, nPow, nSub, zLT, zLE, zNat, RAes1770, DT]
  refine ⟨_, _, AV.weak.refl _, AS.le.refl _, ob, cap, hob, rfl, ?_⟩
  try rfl
theorem sCloneO_calls (l : List UInt8) (s : AS) (h0 : l.length ≠ 0) (hl : l.length ≤ 2 ^ 45) : ACalls Tryd.prog Γ 70 [bytesV l .any] s (fun r s' => ∃ o cap, s.objs o = none ∧ r = .osl o 0 1 l.length cap ∧ s' = s.set o (l.map byteV)) :=
  ACalls.any (pre := []) (post := []) (fun e => absurd (by rw [e]; rfl) h0) (sCloneO_no l s h0 hl)

theorem fillG_over (F G : Nat → UInt8) (N i : Nat) (h : N ≤ i) : fillG F G N i = fillG F G N N := by
  unfold fillG
  apply List.map_congr_left
  intro n hn
  have := List.mem_range.1 hn
  rw [if_pos (by omega), if_pos this]
theorem eye4 (l : List UInt8) (h : l.length = 4) : (eyeNum 4 (l, 0)).1 = beNat l := by
  have e : List.take 4 l = l := List.take_of_length_le (by omega)
  simp [eyeNum, eyeNext, h, e]
theorem imul16b (i : Nat) (h : i < 2 ^ 40) : imul .i64 16 (i : Int) = ((16 * i : Nat) : Int) := by
  rw [imul_i64 (by omega)]
  omega
theorem set_tail (nonce tl ys : List UInt8) (hn : nonce.length = 16) (ht : tl.length = 4) (hy : ys.length = 4) : asetAll ((nonce.take 12 ++ tl).map byteV) 12 (ys.map byteV) = (nonce.take 12 ++ ys).map byteV := by
  have h1 : (nonce.take 12).length = 12 := by simp [hn]
  generalize nonce.take 12 = a at *
  rw [asetAll_at _ _ _ (by rw [List.length_map, List.length_map, List.length_append]; omega), List.map_append, List.map_append, List.take_append_of_le_length (by rw [List.length_map]; omega), List.take_of_length_le (by rw [List.length_map]; omega), List.drop_eq_nil_of_le (by rw [List.length_append, List.length_map, List.length_map, List.length_map]; omega), List.append_nil]

set_option maxHeartbeats 8000000 in
set_option maxRecDepth 100000 in
theorem mask_some_calls (key nonce text : List UInt8) (hk : key.length = 48) (hn : nonce.length = 16) (h0 : text.length ≠ 0) (ht : text.length ≤ 2 ^ 30) (s : AS) :
    ACalls Tryd.prog Γ 83 [bytesV key .any, bytesV nonce .any, bytesV text .any] s (fun r s' => r = bytesV (Aes.mask key nonce text) .any ∧ s' = s) := by
  refine gcalls_body Tryd.func83 rfl Tryd.ntmps83 Tryd.results83 (by simp) ?_
  have hk16 : (key.take 16).length = 16 := by simp [hk]
  have hk16l : (List.take 16 (key.map byteV)).length = 16 := by simp [hk]
  have hk16a : (List.take 16 (key.map byteV)).all AV.one = true := by rw [← List.map_take]; exact all_bytes _
  have hnl : (nonce.map byteV).length = 16 := by rw [List.length_map, hn]
  have hna := all_bytes nonce
  have hntk : List.take 16 (nonce.map byteV) = nonce.map byteV := List.take_of_length_le (by omega)
  have hfl := first_lt nonce hn
  unfold bytesV
  rw [hk, hn]
  refine gwp_seq_k ?_
  intro K1 hK1
  refine awp_reg_end ?_
  intro K hK
  simp only [↓DN, UP, DF, ashift, aconv, aindexAddr, aindex, aslice, abuiltin, AV.cells, AV.one, reduceCtorEq, ↓reduceIte, nLT, nLE, nEQ, nAdd, nMul, nPow, nSub, zLT, zLE, zNat, RAes1783]
  refine hK _ _ ?_
  clear hK K
  simp only [thenQ]
  refine hK1 _ _ ?_
  clear hK1 K1
  refine gwp_seq_k ?_
  intro K1 hK1
  refine awp_reg_end ?_
  intro K hK
  simp only [↓DN, UP, DF, ashift, aconv, aindexAddr, aindex, aslice, abuiltin, AV.cells, AV.one, reduceCtorEq, ↓reduceIte, nLT, nLE, nEQ, nAdd, nMul, nPow, nSub, zLT, zLE, zNat, RAes1783]
  intro o7 ho7 o8 ho8
  obtain ⟨h87, ho8'⟩ := AS.fresh_set ho8
  rw [z16]
  refine hK _ _ ?_
  clear hK K
  simp only [thenQ]
  refine hK1 _ _ ?_
  clear hK1 K1
  generalize hs0 : (s.set o7 (List.replicate 16 (bV 0))).set o8 (List.replicate 16 (bV 0)) = s0 at *
  have j7 : s0.objs o7 = some (List.replicate 16 (bV 0)) := by rw [← hs0, AS.set_objs_ne _ h87.symm, AS.set_objs_same]
  have j8 : s0.objs o8 = some (List.replicate 16 (bV 0)) := by rw [← hs0]; exact AS.set_objs_same _ _ _
  have hle : s.le s0 := by rw [← hs0]; exact AS.le_set (AS.le_set (AS.le.refl s) ho7 _) ho8' _
  clear hs0 ho8
  have hzl : (List.replicate 16 (bV 0)).length = 16 := by simp
  generalize hZ : List.replicate 16 (bV 0) = Z at *
  refine gwp_seq_k ?_
  intro K1 hK1
  refine awp_reg_end ?_
  intro K hK
  simp only [↓DN, UP, DF, ashift, aconv, aindexAddr, aindex, aslice, abuiltin, AV.cells, AV.one, reduceCtorEq, ↓reduceIte, nLT, nLE, nEQ, nAdd, nMul, nPow, nSub, zLT, zLE, zNat, RAes1783, j7, hzl, hk16l, hk16a, show (0 : Int) ≤ ((16 : Nat) : Int) from by decide, show ((16 : Nat) : Int) ≤ ((16 : Nat) : Int) from by decide, show ¬ (((16 : Nat) : Int) = 0) from by decide, show min 48 16 = 16 from rfl]
  rw [asetAll_whole Z ((key.take 16).map byteV) (by rw [hzl, List.length_map, hk16])]
  refine hK _ _ ?_
  clear hK K
  simp only [thenQ]
  refine hK1 _ _ ?_
  clear hK1 K1
  generalize hs1 : s0.set o7 ((key.take 16).map byteV) = s1 at *
  have q7 : s1.objs o7 = some ((key.take 16).map byteV) := by rw [← hs1]; exact AS.set_objs_same _ _ _
  have q8 : s1.objs o8 = some Z := by rw [← hs1, AS.set_objs_ne _ h87]; exact j8
  have hle1 : s.le s1 := by rw [← hs1]; exact AS.le_set hle ho7 _
  clear hs1 j7 j8 hle
  refine gwp_seq_k ?_
  intro K1 hK1
  refine awp_reg_end ?_
  intro K hK
  simp only [↓DN, UP, DF, ashift, aconv, aindexAddr, aindex, aslice, abuiltin, AV.cells, AV.one, reduceCtorEq, ↓reduceIte, nLT, nLE, nEQ, nAdd, nMul, nPow, nSub, zLT, zLE, zNat, RAes1783, q8, hzl, hnl, hna, hntk, show (0 : Int) ≤ ((16 : Nat) : Int) from by decide, show ((16 : Nat) : Int) ≤ ((16 : Nat) : Int) from by decide, show ¬ (((16 : Nat) : Int) = 0) from by decide, show min 48 16 = 16 from rfl, show min 16 16 = 16 from rfl]
  rw [asetAll_whole Z (nonce.map byteV) (by rw [hzl, hnl])]
  refine hK _ _ ?_
  clear hK K
  simp only [thenQ]
  refine hK1 _ _ ?_
  clear hK1 K1
  generalize hs2 : s1.set o8 (nonce.map byteV) = s2 at *
  have j7 : s2.objs o7 = some ((key.take 16).map byteV) := by rw [← hs2, AS.set_objs_ne _ h87.symm]; exact q7
  have j8 : s2.objs o8 = some (nonce.map byteV) := by rw [← hs2]; exact AS.set_objs_same _ _ _
  have hle2 : s.le s2 := by rw [← hs2]; exact AS.le_set hle1 ho8' _
  clear hs2 q7 q8 hle1
  have hd12 : (nonce.drop 12).length = 4 := by simp [hn]
  have hop := fun s => open_calls (Γ := Γ) (nonce.drop 12) s (by omega)
  unfold bytesV at hop
  rw [hd12] at hop
  refine gwp_seq_k ?_
  intro K1 hK1
  refine awp_reg_end ?_
  intro K hK
  simp only [↓DN, UP, DF, ashift, aconv, aindexAddr, aindex, aslice, abuiltin, AV.cells, AV.one, reduceCtorEq, ↓reduceIte, nLT, nLE, nEQ, nAdd, nMul, nPow, nSub, zLT, zLE, zNat, RAes1783, hntk, hn, show (0 : Int) ≤ 12 from by decide, show (12 : Int) ≤ ((16 : Nat) : Int) from by decide, show ((16 : Nat) : Int) ≤ ((16 : Nat) : Int) from by decide]
  refine acallk (hop _) ?_
  rintro r s3 ⟨p, rfl, hp⟩
  simp only [↓AXq_nil, ↓AXq_cons, pval, DX, Nat.reduceBEq, ↓DN, UP, DF, ashift, aconv, aindexAddr, aindex, aslice, abuiltin, AV.cells, AV.one, reduceCtorEq, ↓reduceIte, nLT, nLE, nEQ, nAdd, nMul, nPow, nSub, zLT, zLE, zNat, RAes1783]
  refine hK _ _ ?_
  clear hK K
  simp only [thenQ]
  refine hK1 _ _ ?_
  clear hK1 K1
  refine gwp_seq_k ?_
  intro K1 hK1
  refine awp_reg_end ?_
  intro K hK
  simp only [↓DN, UP, DF, ashift, aconv, aindexAddr, aindex, aslice, abuiltin, AV.cells, AV.one, reduceCtorEq, ↓reduceIte, nLT, nLE, nEQ, nAdd, nMul, nPow, nSub, zLT, zLE, zNat, RAes1783]
  refine acallk (eyeU32_calls s2 s3 p _ hp) ?_
  rintro r s4 ⟨rfl, hp2⟩
  rw [eye4 _ hd12, show beNat (nonce.drop 12) = Aes.first nonce from rfl]
  have hcv : iconv .u32 ((Aes.first nonce : Nat) : Int) = ((Aes.first nonce : Nat) : Int) := by
    rw [iconv_u rfl]
    simp only [IntKind.bits]
    rw [Nat.mod_eq_of_lt (by omega)]
  simp only [↓AXq_nil, ↓AXq_cons, pval, DX, Nat.reduceBEq, ↓DN, UP, DF, ashift, aconv, aindexAddr, aindex, aslice, abuiltin, AV.cells, AV.one, reduceCtorEq, ↓reduceIte, nLT, nLE, nEQ, nAdd, nMul, nPow, nSub, zLT, zLE, zNat, RAes1783, hcv]
  refine hK _ _ ?_
  clear hK K
  have q7 := hp2.le.objs _ _ j7
  have q8 := hp2.le.objs _ _ j8
  have hle4 : s.le s4 := AS.le.trans hle2 hp2.le
  clear hp hp2 j7 j8 hle2 hop hcv
  simp only [thenQ]
  refine hK1 _ _ ?_
  clear hK1 K1
  refine gwp_seq_k ?_
  intro K1 hK1
  refine awp_reg_end ?_
  intro K hK
  simp only [↓DN, UP, DF, ashift, aconv, aindexAddr, aindex, aslice, abuiltin, AV.cells, AV.one, reduceCtorEq, ↓reduceIte, nLT, nLE, nEQ, nAdd, nMul, nPow, nSub, zLT, zLE, zNat, RAes1783]
  refine acallk (sCloneO_calls text s4 h0 (by omega)) ?_
  rintro r s5 ⟨o11, cap, ho11, rfl, rfl⟩
  simp only [↓AXq_nil, ↓AXq_cons, pval, DX, Nat.reduceBEq, ↓DN, UP, DF, ashift, aconv, aindexAddr, aindex, aslice, abuiltin, AV.cells, AV.one, reduceCtorEq, ↓reduceIte, nLT, nLE, nEQ, nAdd, nMul, nPow, nSub, zLT, zLE, zNat, RAes1783]
  refine hK _ _ ?_
  clear hK K
  simp only [thenQ]
  refine hK1 _ _ ?_
  clear hK1 K1
  have n117 : o11 ≠ o7 := fun e => by rw [e, q7] at ho11; cases ho11
  have n118 : o11 ≠ o8 := fun e => by rw [e, q8] at ho11; cases ho11
  have hs11 : s.objs o11 = none := by
    cases h : s.objs o11 with
    | none => rfl
    | some cs => rw [hle4.objs _ _ h] at ho11; cases ho11
  have hfill : fillG (fun n => (Aes.mask key nonce text).getD n 0) (fun n => text.getD n 0) text.length 0 = text.map byteV := by rw [fillG_none, range_list rfl]
  rw [← hfill]
  generalize hs5 : s4.set o11 (fillG (fun n => (Aes.mask key nonce text).getD n 0) (fun n => text.getD n 0) text.length 0) = s5 at *
  have j7 : s5.objs o7 = some ((key.take 16).map byteV) := by rw [← hs5, AS.set_objs_ne _ n117.symm]; exact q7
  have j8 : s5.objs o8 = some ((nonce.take 12 ++ nonce.drop 12).map byteV) := by rw [← hs5, AS.set_objs_ne _ n118.symm, List.take_append_drop]; exact q8
  have j11 : s5.objs o11 = some (fillG (fun n => (Aes.mask key nonce text).getD n 0) (fun n => text.getD n 0) text.length 0) := by rw [← hs5]; exact AS.set_objs_same _ _ _
  have hle5 : s.le s5 := by rw [← hs5]; exact AS.le_set hle4 hs11 _
  clear hs5 q7 q8 hle4 ho11 hfill
  have c1 : iadd .i64 (text.length : Int) 16 = ((text.length + 16 : Nat) : Int) := i64_add text.length 16 (by omega)
  have c2 : isub .i64 ((text.length + 16 : Nat) : Int) 1 = ((text.length + 15 : Nat) : Int) := i64_sub (text.length + 16) 1 (by omega) (by omega)
  have c3 : iquo .i64 ((text.length + 15 : Nat) : Int) 16 = (((text.length + 15) / 16 : Nat) : Int) := by
    have : iquo .i64 ((text.length + 15 : Nat) : Int) ((16 : Nat) : Int) = (((text.length + 15) / 16 : Nat) : Int) := by
      rw [iquo]
      have e : Int.tdiv ((text.length + 15 : Nat) : Int) ((16 : Nat) : Int) = (((text.length + 15) / 16 : Nat) : Int) := (Int.ofNat_tdiv _ 16).symm
      rw [e, IntWalk.i64_in _ (by omega)]
    exact this
  have hcn : 16 * ((text.length + 15) / 16) ≥ text.length := by omega
  have hcn2 : 16 * ((text.length + 15) / 16) < text.length + 16 := by omega
  generalize (text.length + 15) / 16 = cnt at *
  refine gwp_seq_k ?_
  intro K1 hK1
  refine awp_reg_seq ?_
  intro K hK
  simp only [↓DN, UP, DF, ashift, aconv, aindexAddr, aindex, aslice, abuiltin, AV.cells, AV.one, reduceCtorEq, ↓reduceIte, nLT, nLE, nEQ, nAdd, nMul, nPow, nSub, zLT, zLE, zNat, RAes1783, c1, c2, c3, sixteen_ne]
  refine hK _ _ ?_
  clear hK K
  clear c1 c2 c3
  refine awp_block ?_
  refine awp_loop (fun E s6 => ∃ (j : Nat) (tl : List UInt8), j ≤ cnt ∧ tl.length = 4 ∧ E 7 = .ptr o7 0 ∧ E 8 = .ptr o8 0 ∧ E 10 = .v (.int .u32 (Aes.first nonce : Nat)) ∧ E 11 = .osl o11 0 1 text.length cap ∧ E 36 = nV cnt ∧ E 37 = nV j ∧ s6.objs o7 = some ((key.take 16).map byteV) ∧ s6.objs o8 = some ((nonce.take 12 ++ tl).map byteV) ∧ s6.objs o11 = some (fillG (fun n => (Aes.mask key nonce text).getD n 0) (fun n => text.getD n 0) text.length (16 * j)) ∧ s.le s6)
    (fun E _ => match E 37 with | .v (.int _ i) => cnt - i.toNat | _ => 0) ?_ ?_
  · exact ⟨0, nonce.drop 12, by omega, hd12, by simp only [upd, Nat.reduceEqDiff, ↓reduceIte], by simp only [upd, Nat.reduceEqDiff, ↓reduceIte], by simp only [upd, Nat.reduceEqDiff, ↓reduceIte], by simp only [upd, Nat.reduceEqDiff, ↓reduceIte], by simp only [upd, Nat.reduceEqDiff, ↓reduceIte], by simp only [upd, ↓reduceIte]; rfl, j7, j8, j11, hle5⟩
  · clear j7 j8 j11 hle5
    rintro E1 s6 ⟨j, tl, hj, htl, e7, e8, e10, e11, e36, e37, j7, j8, j11, hle6⟩ -
    by_cases hj' : j < cnt
    · refine awp_reg_seq ?_
      intro K hK
      simp only [↓DN, UP, DF, ashift, aconv, aindexAddr, aindex, aslice, abuiltin, AV.cells, AV.one, reduceCtorEq, ↓reduceIte, nLT, nLE, nEQ, nAdd, nMul, nPow, nSub, zLT, zLE, zNat, RAes1783, e36, e37, decide_eq_true (show (j : Int) < (cnt : Int) by omega)]
      refine hK _ _ ?_
      clear hK K
      refine awp_seq_k ?_
      intro K2 hK2
      refine awp_cond_k ?_
      intro X Y hX hY
      simp only [↓DN, UP, DF, ashift, aconv, aindexAddr, aindex, aslice, abuiltin, AV.cells, AV.one, reduceCtorEq, ↓reduceIte, nLT, nLE, nEQ, nAdd, nMul, nPow, nSub, zLT, zLE, zNat, RAes1783, DB]
      refine hX ?_
      clear hX hY X Y
      refine awp_skip ?_
      refine hK2 _ _ ?_
      clear hK2 K2
      refine awp_seq_k ?_
      intro K3 hK3
      refine awp_block ?_
      refine awp_reg_seq ?_
      intro K hK
      simp only [↓DN, UP, DF, ashift, aconv, aindexAddr, aindex, aslice, abuiltin, AV.cells, AV.one, reduceCtorEq, ↓reduceIte, nLT, nLE, nEQ, nAdd, nMul, nPow, nSub, zLT, zLE, zNat, RAes1783, e37]
      refine hK _ _ ?_
      clear hK K
      have w1 : iconv .u32 ((j : Nat) : Int) = ((j : Nat) : Int) := by
        rw [iconv_u rfl]
        simp only [IntKind.bits]
        rw [Nat.mod_eq_of_lt (by omega)]
      have w2 := wadd (Aes.first nonce) j
      rw [show Sha.add32 (Aes.first nonce) j = (Aes.first nonce + j) % 4294967296 from rfl] at w2
      refine awp_reg_seq ?_
      intro K hK
      simp only [↓DN, UP, DF, ashift, aconv, aindexAddr, aindex, aslice, abuiltin, AV.cells, AV.one, reduceCtorEq, ↓reduceIte, nLT, nLE, nEQ, nAdd, nMul, nPow, nSub, zLT, zLE, zNat, RAes1783, e10, w1, w2]
      refine hK _ _ ?_
      clear hK K
      have hctr : (nonce.take 12 ++ be 4 ((Aes.first nonce + j) % 4294967296)) = Aes.ctr nonce j := rfl
      have hbe : (be 4 ((Aes.first nonce + j) % 4294967296)).map byteV = [bV (UInt8.ofNat ((Aes.first nonce + j) % 4294967296 / 16777216)), bV (UInt8.ofNat ((Aes.first nonce + j) % 4294967296 / 65536)), bV (UInt8.ofNat ((Aes.first nonce + j) % 4294967296 / 256)), bV (UInt8.ofNat ((Aes.first nonce + j) % 4294967296))] := by simp [be, byteV]
      have hset := set_tail nonce tl (be 4 ((Aes.first nonce + j) % 4294967296)) hn htl (by simp)
      rw [hctr, hbe] at hset
      have hol : ((nonce.take 12 ++ tl).map byteV).length = 16 := by simp [hn, htl]
      have s24 := wshr ((Aes.first nonce + j) % 4294967296) 24 (by decide)
      have s16 := wshr ((Aes.first nonce + j) % 4294967296) 16 (by decide)
      have s8' := wshr ((Aes.first nonce + j) % 4294967296) 8 (by decide)
      generalize (Aes.first nonce + j) % 4294967296 = w at *
      generalize hO : (nonce.take 12 ++ tl).map byteV = O at *
      refine awp_reg_seq ?_
      intro K hK
      simp only [↓DN, UP, DF, ashift, aconv, aindexAddr, aindex, aslice, abuiltin, AV.cells, AV.one, reduceCtorEq, ↓reduceIte, nLT, nLE, nEQ, nAdd, nMul, nPow, nSub, zLT, zLE, zNat, RAes1783, e8, j8, s24, s16, s8', show ishr .u32 (w : Int) 24 = ((w / 2 ^ 24 : Nat) : Int) from s24, show ishr .u32 (w : Int) 16 = ((w / 2 ^ 16 : Nat) : Int) from s16, show ishr .u32 (w : Int) 8 = ((w / 2 ^ 8 : Nat) : Int) from s8', b_conv, rep4n, hset, hol, show (12 : Int) ≤ ((16 : Nat) : Int) from by decide, show ((16 : Nat) : Int) ≤ ((16 : Nat) : Int) from by decide, show ¬ (((16 : Nat) : Int) = 12) from by decide, show min 4 4 = 4 from rfl]
      first
        | refine hK _ _ ?_
        | refine ⟨by omega, hK _ _ ?_⟩
      clear hK K
      generalize hs7 : s6.set o8 ((Aes.ctr nonce j).map byteV) = s7 at *
      have q7 : s7.objs o7 = some ((key.take 16).map byteV) := by rw [← hs7, AS.set_objs_ne _ h87.symm]; exact j7
      have q8 : s7.objs o8 = some ((Aes.ctr nonce j).map byteV) := by rw [← hs7]; exact AS.set_objs_same _ _ _
      have q11 : s7.objs o11 = some (fillG (fun n => (Aes.mask key nonce text).getD n 0) (fun n => text.getD n 0) text.length (16 * j)) := by rw [← hs7, AS.set_objs_ne _ n118]; exact j11
      have hle7 : s.le s7 := by rw [← hs7]; exact AS.le_set hle6 ho8' _
      clear hs7 j7 j8 j11 hle6 hset hbe hol
      have hcl := ctr_len nonce hn j
      have hbk := fun s => aesBlock_calls (Γ := Γ) (key.take 16) (Aes.ctr nonce j) hk16 hcl s
      have hbl := Aes.block_len (key.take 16) (Aes.ctr nonce j)
      have hKl : ((key.take 16).map byteV).length = 16 := by rw [List.length_map, hk16]
      have hKt : List.take 16 ((key.take 16).map byteV) = (key.take 16).map byteV := List.take_of_length_le (by omega)
      have hCl : ((Aes.ctr nonce j).map byteV).length = 16 := by rw [List.length_map, hcl]
      have hCt : List.take 16 ((Aes.ctr nonce j).map byteV) = (Aes.ctr nonce j).map byteV := List.take_of_length_le (by omega)
      have hBa := all_bytes (Aes.block (key.take 16) (Aes.ctr nonce j))
      have hBl2 : ((Aes.block (key.take 16) (Aes.ctr nonce j)).map byteV).length = 16 := by rw [List.length_map, hbl]
      have hBt : List.take 16 ((Aes.block (key.take 16) (Aes.ctr nonce j)).map byteV) = (Aes.block (key.take 16) (Aes.ctr nonce j)).map byteV := List.take_of_length_le (by omega)
      have hmB : ∀ k, k < 16 → Aes.maskB key nonce (16 * j + k) = (Aes.block (key.take 16) (Aes.ctr nonce j)).getD k 0 := by
        intro k hk
        rw [Aes.maskB, show (16 * j + k) / 16 = j by omega, show (16 * j + k) % 16 = k by omega]
      have htl2 : (be 4 w).length = 4 := by simp
      rw [← hctr] at q8
      generalize hBK : Aes.block (key.take 16) (Aes.ctr nonce j) = bk at *
      rw [← hctr] at hCl hCt hbk
      generalize hKK : (key.take 16).map byteV = KK at *
      generalize hCC : (nonce.take 12 ++ be 4 w).map byteV = CC at *
      refine awp_reg_seq ?_
      intro K hK
      simp only [↓DN, UP, DF, ashift, aconv, aindexAddr, aindex, aslice, abuiltin, AV.cells, AV.one, reduceCtorEq, ↓reduceIte, nLT, nLE, nEQ, nAdd, nMul, nPow, nSub, zLT, zLE, zNat, RAes1783, e7, e8, q7, q8, hKl, hKt, hCl, hCt, Nat.le_refl]
      refine acallk (hbk _) ?_
      rintro r s8 ⟨rfl, rfl⟩
      simp only [↓AXq_nil, ↓AXq_cons, pval, DX, Nat.reduceBEq, ↓DN, UP, DF, ashift, aconv, aindexAddr, aindex, aslice, abuiltin, AV.cells, AV.one, reduceCtorEq, ↓reduceIte, nLT, nLE, nEQ, nAdd, nMul, nPow, nSub, zLT, zLE, zNat, RAes1783, hBl2, hBa, Nat.le_refl]
      intro o14 ho14
      rw [z16, asetAll_whole (List.replicate 16 (bV 0)) (bk.map byteV) (by rw [hBl2]; simp)]
      refine hK _ _ ?_
      clear hK K
      have n147 : o14 ≠ o7 := fun e => by rw [e, q7] at ho14; cases ho14
      have n148 : o14 ≠ o8 := fun e => by rw [e, q8] at ho14; cases ho14
      have n1411 : o14 ≠ o11 := fun e => by rw [e, q11] at ho14; cases ho14
      have hs14 : s.objs o14 = none := by
        cases h : s.objs o14 with
        | none => rfl
        | some cs => rw [hle7.objs _ _ h] at ho14; cases ho14
      generalize hs9 : s8.set o14 (bk.map byteV) = s9 at *
      have j7 : s9.objs o7 = some KK := by rw [← hs9, AS.set_objs_ne _ n147.symm]; exact q7
      have j8 : s9.objs o8 = some CC := by rw [← hs9, AS.set_objs_ne _ n148.symm]; exact q8
      have j11 : s9.objs o11 = some (fillG (fun n => (Aes.mask key nonce text).getD n 0) (fun n => text.getD n 0) text.length (16 * j)) := by rw [← hs9, AS.set_objs_ne _ n1411.symm]; exact q11
      have j14 : s9.objs o14 = some (bk.map byteV) := by rw [← hs9]; exact AS.set_objs_same _ _ _
      have hle9 : s.le s9 := by rw [← hs9]; exact AS.le_set hle7 hs14 _
      clear hs9 q7 q8 q11 hle7 ho14 hbk hBa
      refine awp_reg_seq ?_
      intro K hK
      simp only [↓DN, UP, DF, ashift, aconv, aindexAddr, aindex, aslice, abuiltin, AV.cells, AV.one, reduceCtorEq, ↓reduceIte, nLT, nLE, nEQ, nAdd, nMul, nPow, nSub, zLT, zLE, zNat, RAes1783, j14, hBl2, hBt, Nat.le_refl]
      refine hK _ _ ?_
      clear hK K
      refine awp_block ?_
      refine awp_loop (fun E s10 => ∃ k : Nat, k ≤ 16 ∧ E 7 = .ptr o7 0 ∧ E 8 = .ptr o8 0 ∧ E 10 = .v (.int .u32 (Aes.first nonce : Nat)) ∧ E 11 = .osl o11 0 1 text.length cap ∧ E 12 = nV j ∧ E 36 = nV cnt ∧ E 37 = nV j ∧ E 61 = .agg (bk.map byteV) ∧ E 62 = nV k ∧ s10.objs o7 = some KK ∧ s10.objs o8 = some CC ∧ s10.objs o11 = some (fillG (fun n => (Aes.mask key nonce text).getD n 0) (fun n => text.getD n 0) text.length (16 * j + k)) ∧ s.le s10)
        (fun E _ => match E 62 with | .v (.int _ i) => 16 - i.toNat | _ => 0) ?_ ?_
      · exact ⟨0, by omega, by simp only [upd, e7, Nat.reduceEqDiff, ↓reduceIte], by simp only [upd, e8, Nat.reduceEqDiff, ↓reduceIte], by simp only [upd, e10, Nat.reduceEqDiff, ↓reduceIte], by simp only [upd, e11, Nat.reduceEqDiff, ↓reduceIte], by simp only [upd, Nat.reduceEqDiff, ↓reduceIte], by simp only [upd, e36, Nat.reduceEqDiff, ↓reduceIte], by simp only [upd, e37, Nat.reduceEqDiff, ↓reduceIte], by simp only [upd, Nat.reduceEqDiff, ↓reduceIte], by simp only [upd, ↓reduceIte]; rfl, j7, j8, j11, hle9⟩
      · clear j7 j8 j11 j14 hle9
        rintro E2 s10 ⟨k, hk', g7, g8, g10, g11, g12, g36, g37, g61, g62, j7, j8, j11, hle9⟩ -
        by_cases hk4 : k < 16
        · refine awp_reg_seq ?_
          intro K hK
          simp only [↓DN, UP, DF, ashift, aconv, aindexAddr, aindex, aslice, abuiltin, AV.cells, AV.one, reduceCtorEq, ↓reduceIte, nLT, nLE, nEQ, nAdd, nMul, nPow, nSub, zLT, zLE, zNat, RAes1783, g62, decide_eq_true (show (k : Int) < 16 by omega)]
          refine hK _ _ ?_
          clear hK K
          refine awp_seq_k ?_
          intro K5 hK5
          refine awp_cond_k ?_
          intro X Y hX hY
          simp only [↓DN, UP, DF, ashift, aconv, aindexAddr, aindex, aslice, abuiltin, AV.cells, AV.one, reduceCtorEq, ↓reduceIte, nLT, nLE, nEQ, nAdd, nMul, nPow, nSub, zLT, zLE, zNat, RAes1783, DB]
          refine hX ?_
          clear hX hY X Y
          refine awp_skip ?_
          refine hK5 _ _ ?_
          clear hK5 K5
          refine awp_seq_k ?_
          intro K6 hK6
          refine awp_block ?_
          have hbi : (bk.map byteV)[k]? = some (byteV (bk.getD k 0)) := by simp [List.getElem?_eq_getElem (show k < bk.length by omega)]
          have hbd := bytes_drop (l := bk) k (by omega)
          have hmk := hmB k hk4
          have m1 : (0 : Int) ≤ (k : Int) := by omega
          have m2 : (k : Int) < ((16 : Nat) : Int) := by omega
          have a0 := imul16b j (by omega)
          have a1 := i64_add (16 * j) k (by omega)
          have hgo : ∀ (E3 : Env) (s11 : AS), E3 7 = .ptr o7 0 → E3 8 = .ptr o8 0 → E3 10 = .v (.int .u32 (Aes.first nonce : Nat)) → E3 11 = .osl o11 0 1 text.length cap → E3 12 = nV j → E3 36 = nV cnt → E3 37 = nV j → E3 61 = .agg (bk.map byteV) → E3 62 = nV k →
              s11.objs o7 = some KK → s11.objs o8 = some CC → s11.objs o11 = some (fillG (fun n => (Aes.mask key nonce text).getD n 0) (fun n => text.getD n 0) text.length (16 * j + k + 1)) → s.le s11 → K6 E3 s11 := by
            intro E3 s11 f7 f8 f10 f11 f12 f36 f37 f61 f62 t7 t8 t11 hle11
            refine hK6 _ _ ?_
            clear hK6 K6
            refine awp_reg_end ?_
            intro K hK
            simp only [↓DN, UP, DF, ashift, aconv, aindexAddr, aindex, aslice, abuiltin, AV.cells, AV.one, reduceCtorEq, ↓reduceIte, nLT, nLE, nEQ, nAdd, nMul, nPow, nSub, zLT, zLE, zNat, RAes1783, f62, w_succ k (by omega)]
            refine hK _ _ ?_
            clear hK K
            refine ⟨⟨k + 1, by omega, by simp only [upd, f7, Nat.reduceEqDiff, ↓reduceIte], by simp only [upd, f8, Nat.reduceEqDiff, ↓reduceIte], by simp only [upd, f10, Nat.reduceEqDiff, ↓reduceIte], by simp only [upd, f11, Nat.reduceEqDiff, ↓reduceIte], by simp only [upd, f12, Nat.reduceEqDiff, ↓reduceIte], by simp only [upd, f36, Nat.reduceEqDiff, ↓reduceIte], by simp only [upd, f37, Nat.reduceEqDiff, ↓reduceIte], by simp only [upd, f61, Nat.reduceEqDiff, ↓reduceIte], by simp only [upd, ↓reduceIte], t7, t8, by rw [show 16 * j + (k + 1) = 16 * j + k + 1 from rfl]; exact t11, hle11⟩, ?_⟩
            simp only [g62, upd, ↓reduceIte]
            omega
          clear hK6
          refine awp_reg_seq ?_
          intro K hK
          simp only [↓DN, UP, DF, ashift, aconv, aindexAddr, aindex, aslice, abuiltin, AV.cells, AV.one, reduceCtorEq, ↓reduceIte, nLT, nLE, nEQ, nAdd, nMul, nPow, nSub, zLT, zLE, zNat, RAes1783, g61, g62, m1, m2, hbi, hbd, hBl2, byteV]
          refine hK _ _ ?_
          clear hK K
          refine awp_reg_seq ?_
          intro K hK
          simp only [↓DN, UP, DF, ashift, aconv, aindexAddr, aindex, aslice, abuiltin, AV.cells, AV.one, reduceCtorEq, ↓reduceIte, nLT, nLE, nEQ, nAdd, nMul, nPow, nSub, zLT, zLE, zNat, RAes1783, g12, a0, a1]
          refine hK _ _ ?_
          clear hK K
          by_cases hin : 16 * j + k < text.length
          · have hset := fillG_set (fun n => (Aes.mask key nonce text).getD n 0) (fun n => text.getD n 0) text.length (16 * j + k) _ rfl
            have hdr := fillG_drop (fun n => (Aes.mask key nonce text).getD n 0) (fun n => text.getD n 0) text.length (16 * j + k) (16 * j + k) hin
            rw [if_neg (Nat.lt_irrefl _)] at hdr
            rw [Aes.mask_get key nonce text (16 * j + k) hin, hmk] at hset
            have hlen := fillG_len (fun n => (Aes.mask key nonce text).getD n 0) (fun n => text.getD n 0) text.length (16 * j + k)
            generalize hR' : fillG (fun n => (Aes.mask key nonce text).getD n 0) (fun n => text.getD n 0) text.length (16 * j + k + 1) = R' at *
            generalize fillG (fun n => (Aes.mask key nonce text).getD n 0) (fun n => text.getD n 0) text.length (16 * j + k) = R at *
            generalize text.getD (16 * j + k) 0 = x at *
            generalize bk.getD k 0 = y at *
            have m3 : (0 : Int) ≤ ((16 * j + k : Nat) : Int) := by omega
            have m4 : ((16 * j + k : Nat) : Int) < (text.length : Int) := by omega
            have m5 : 16 * j + k + 1 ≤ text.length := by omega
            refine awp_reg_seq ?_
            intro K hK
            simp only [↓DN, UP, DF, ashift, aconv, aindexAddr, aindex, aslice, abuiltin, AV.cells, AV.one, reduceCtorEq, ↓reduceIte, nLT, nLE, nEQ, nAdd, nMul, nPow, nSub, zLT, zLE, zNat, RAes1783, g11, decide_eq_true m4]
            refine hK _ _ ?_
            clear hK K
            refine awp_cond_k ?_
            intro X Y hX hY
            simp only [↓DN, UP, DF, ashift, aconv, aindexAddr, aindex, aslice, abuiltin, AV.cells, AV.one, reduceCtorEq, ↓reduceIte, nLT, nLE, nEQ, nAdd, nMul, nPow, nSub, zLT, zLE, zNat, RAes1783, DB]
            refine hX ?_
            clear hX hY X Y
            refine awp_reg_end ?_
            intro K hK
            simp only [↓DN, UP, DF, ashift, aconv, aindexAddr, aindex, aslice, abuiltin, AV.cells, AV.one, reduceCtorEq, ↓reduceIte, nLT, nLE, nEQ, nAdd, nMul, nPow, nSub, zLT, zLE, zNat, RAes1783, g11, m3, m4, m5, hin, j11, hdr, byteV, b_xor, hset, hlen]
            refine hK _ _ ?_
            clear hK K
            simp only [blockQ, thenQ, if_true, if_false]
            exact hgo _ _ (by simp only [upd, g7, Nat.reduceEqDiff, ↓reduceIte]) (by simp only [upd, g8, Nat.reduceEqDiff, ↓reduceIte]) (by simp only [upd, g10, Nat.reduceEqDiff, ↓reduceIte]) (by simp only [upd, g11, Nat.reduceEqDiff, ↓reduceIte]) (by simp only [upd, g12, Nat.reduceEqDiff, ↓reduceIte]) (by simp only [upd, g36, Nat.reduceEqDiff, ↓reduceIte]) (by simp only [upd, g37, Nat.reduceEqDiff, ↓reduceIte]) (by simp only [upd, g61, Nat.reduceEqDiff, ↓reduceIte]) (by simp only [upd, g62, Nat.reduceEqDiff, ↓reduceIte]) (by rw [AS.set_objs_ne _ n117.symm]; exact j7) (by rw [AS.set_objs_ne _ n118.symm]; exact j8) (AS.set_objs_same _ _ _) (AS.le_set hle9 hs11 _)
          · refine awp_reg_seq ?_
            intro K hK
            simp only [↓DN, UP, DF, ashift, aconv, aindexAddr, aindex, aslice, abuiltin, AV.cells, AV.one, reduceCtorEq, ↓reduceIte, nLT, nLE, nEQ, nAdd, nMul, nPow, nSub, zLT, zLE, zNat, RAes1783, g11, decide_eq_false (show ¬ ((16 * j + k : Nat) : Int) < (text.length : Int) by omega)]
            refine hK _ _ ?_
            clear hK K
            refine awp_cond_k ?_
            intro X Y hX hY
            simp only [↓DN, UP, DF, ashift, aconv, aindexAddr, aindex, aslice, abuiltin, AV.cells, AV.one, reduceCtorEq, ↓reduceIte, nLT, nLE, nEQ, nAdd, nMul, nPow, nSub, zLT, zLE, zNat, RAes1783, DB]
            refine hY ?_
            clear hX hY X Y
            refine awp_skip ?_
            simp only [blockQ, thenQ, if_true, if_false]
            exact hgo _ _ (by simp only [upd, g7, Nat.reduceEqDiff, ↓reduceIte]) (by simp only [upd, g8, Nat.reduceEqDiff, ↓reduceIte]) (by simp only [upd, g10, Nat.reduceEqDiff, ↓reduceIte]) (by simp only [upd, g11, Nat.reduceEqDiff, ↓reduceIte]) (by simp only [upd, g12, Nat.reduceEqDiff, ↓reduceIte]) (by simp only [upd, g36, Nat.reduceEqDiff, ↓reduceIte]) (by simp only [upd, g37, Nat.reduceEqDiff, ↓reduceIte]) (by simp only [upd, g61, Nat.reduceEqDiff, ↓reduceIte]) (by simp only [upd, g62, Nat.reduceEqDiff, ↓reduceIte]) j7 j8 (by rw [fillG_over _ _ _ _ (by omega)]; rw [fillG_over _ _ _ _ (by omega)] at j11; exact j11) hle9
        · obtain rfl : k = 16 := by omega
          refine awp_reg_seq ?_
          intro K hK
          simp only [↓DN, UP, DF, ashift, aconv, aindexAddr, aindex, aslice, abuiltin, AV.cells, AV.one, reduceCtorEq, ↓reduceIte, nLT, nLE, nEQ, nAdd, nMul, nPow, nSub, zLT, zLE, zNat, RAes1783, g62, decide_eq_false (show ¬ ((16 : Nat) : Int) < 16 by decide)]
          refine hK _ _ ?_
          clear hK K
          refine awp_seq_k ?_
          intro K5 hK5
          refine awp_cond_k ?_
          intro X Y hX hY
          simp only [↓DN, UP, DF, ashift, aconv, aindexAddr, aindex, aslice, abuiltin, AV.cells, AV.one, reduceCtorEq, ↓reduceIte, nLT, nLE, nEQ, nAdd, nMul, nPow, nSub, zLT, zLE, zNat, RAes1783, DB]
          refine hY ?_
          clear hX hY X Y
          refine awp_exit ?_
          simp only [thenQ, blockQ, if_true, if_false]
          clear hK5 K5
          refine hK3 _ _ ?_
          clear hK3 K3
          rw [← hCC] at j8
          refine awp_reg_end ?_
          intro K hK
          simp only [↓DN, UP, DF, ashift, aconv, aindexAddr, aindex, aslice, abuiltin, AV.cells, AV.one, reduceCtorEq, ↓reduceIte, nLT, nLE, nEQ, nAdd, nMul, nPow, nSub, zLT, zLE, zNat, RAes1783, g37, w_succ j (by omega)]
          refine hK _ _ ?_
          clear hK K
          refine ⟨⟨j + 1, be 4 w, by omega, htl2, by simp only [upd, g7, Nat.reduceEqDiff, ↓reduceIte], by simp only [upd, g8, Nat.reduceEqDiff, ↓reduceIte], by simp only [upd, g10, Nat.reduceEqDiff, ↓reduceIte], by simp only [upd, g11, Nat.reduceEqDiff, ↓reduceIte], by simp only [upd, g36, Nat.reduceEqDiff, ↓reduceIte], by simp only [upd, ↓reduceIte], j7, j8, by rw [show 16 * (j + 1) = 16 * j + 16 from rfl]; exact j11, hle9⟩, ?_⟩
          simp only [e37, upd, ↓reduceIte]
          omega
    · obtain rfl : j = cnt := by omega
      refine awp_reg_seq ?_
      intro K hK
      simp only [↓DN, UP, DF, ashift, aconv, aindexAddr, aindex, aslice, abuiltin, AV.cells, AV.one, reduceCtorEq, ↓reduceIte, nLT, nLE, nEQ, nAdd, nMul, nPow, nSub, zLT, zLE, zNat, RAes1783, e36, e37, decide_eq_false (show ¬ (j : Int) < (j : Int) by omega)]
      refine hK _ _ ?_
      clear hK K
      refine awp_seq_k ?_
      intro K2 hK2
      refine awp_cond_k ?_
      intro X Y hX hY
      simp only [↓DN, UP, DF, ashift, aconv, aindexAddr, aindex, aslice, abuiltin, AV.cells, AV.one, reduceCtorEq, ↓reduceIte, nLT, nLE, nEQ, nAdd, nMul, nPow, nSub, zLT, zLE, zNat, RAes1783, DB]
      refine hY ?_
      clear hX hY X Y
      refine awp_exit ?_
      simp only [thenQ, blockQ, if_true]
      clear hK2 K2
      refine hK1 _ _ ?_
      clear hK1 K1
      have hml := Aes.mask_len key nonce text
      rw [fillG_over _ _ _ _ (by omega), fillG_full, range_list hml] at j11
      have hl5 : ((Aes.mask key nonce text).map byteV).length = text.length := by rw [List.length_map, hml]
      refine gwp_ghost (Ghost.freeze (d := 11) (o := o11) (off := 0) (sz := 1) (n := text.length) (cap := cap) (by simp only [upd, Nat.reduceEqDiff, ↓reduceIte]; exact e11) j11 (by omega)) (AWp.g ?_)
      have hle7 : s.le (s6.drop o11) := AS.le_drop hle6 hs11
      generalize s6.drop o11 = s7 at *
      rw [show (((Aes.mask key nonce text).map byteV).drop 0).take (text.length * 1) = (Aes.mask key nonce text).map byteV from by rw [List.drop_zero, List.take_of_length_le (by omega)], ← hml]
      generalize Aes.mask key nonce text = M at *
      refine awp_reg_seq ?_
      intro K hK
      simp only [↓DN, UP, DF, ashift, aconv, aindexAddr, aindex, aslice, abuiltin, AV.cells, AV.one, reduceCtorEq, ↓reduceIte, nLT, nLE, nEQ, nAdd, nMul, nPow, nSub, zLT, zLE, zNat, RAes1783]
      refine hK _ _ ?_
      clear hK K
      refine awp_ret ?_
      simp only [retQ, AEnds, aresL, ares, List.toList_toArray, ↓upd_same]; try simp only [↓DN, UP, DF, ashift, aconv, aindexAddr, aindex, aslice, abuiltin, AV.cells, AV.one, reduceCtorEq, ↓reduceIte, nLT, nLE, nEQ, nAdd, nMul, nPow, nSub, zLT, zLE, zNat, RAes1783, DT]
      exact ⟨_, s, AV.weak_any, hle7, rfl, rfl⟩

end Go.Proofs.YtooeklnbdgoneaaDoor


