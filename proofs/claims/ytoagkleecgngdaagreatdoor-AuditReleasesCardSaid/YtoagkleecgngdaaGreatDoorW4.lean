/- Contracts of the program's functions, each walked once; the conditions stand in each theorem. -/
import Derived.Test.YtoagkleecgngdaaGreatDoorW3
import Derived.Test.YtoagkleecgngdaaGreatDoorW2
import Derived.Test.YtoagkleecgngdaaGreatDoorAMp5
import Derived.Test.YtoagkleecgngdaaGreatDoorAMp6
import Derived.Test.YtoagkleecgngdaaGreatDoorW1
import Derived.Test.YtoagkleecgngdaaGreatDoorAMp7
import Derived.Shelf.Spec.SlicesInsertGrow
set_option linter.unusedSimpArgs false
set_option linter.unusedVariables false
open Nat renaming reduceLT → Na, reduceLeDiff → Nb, reduceEqDiff → Nc, reduceAdd → Nk, reduceMul → Nf, reducePow → Ng, reduceSub → Nh
open Int renaming reduceLT → Za, reduceLE → Zb, reduceToNat → Zc
open Go.AM renaming ashift → Qa, aconv → Qb, aindexAddr → Qc, aindex → Qd, aslice → Qe, abuiltin → Qf, awp_reg_seq → wS, awp_reg_end → wE, awp_seq_k → wK, awp_cond_k → wC
open Go.AM.AV renaming cells → Qg, one → Qh
set_option autoImplicit false
namespace Go.AM
/-! ### The cipher, in plain Lean -/
namespace Aes
def dbl (a : UInt8) : UInt8 := (a <<< (1 : UInt8)) ^^^ ((27 : UInt8) &&& ((0 : UInt8) - (a >>> (7 : UInt8))))
/-- What is left of a product. -/
def gm : Nat → UInt8 → UInt8 → UInt8 → UInt8
  | 0, o, _, _ => o
  | f + 1, o, a, b => gm f (o ^^^ (a &&& ((0 : UInt8) - (b &&& 1)))) (dbl a) (b >>> 1)
theorem gm_zero : ∀ (f : Nat) (o a : UInt8), gm f o a 0 = o
  | 0, o, a => rfl
  | f + 1, o, a => by
    have e : o ^^^ (a &&& ((0 : UInt8) - ((0 : UInt8) &&& 1))) = o := by
      have : (0 : UInt8) - ((0 : UInt8) &&& 1) = 0 := by decide
      rw [this]; simp
    rw [gm, e, show (0 : UInt8) >>> 1 = 0 from by decide]
    exact gm_zero f o _
/-- What is left of a power. -/
def pw : Nat → UInt8 → UInt8 → Nat → UInt8
  | 0, o, _, _ => o
  | f + 1, o, a, n => pw f (if n % 2 = 1 then gm 8 0 o a else o) (gm 8 0 a a) (n / 2)
theorem pw_zero : ∀ (f : Nat) (o a : UInt8), pw f o a 0 = o
  | 0, _, _ => rfl
  | f + 1, o, a => by rw [pw]; exact pw_zero f o _
def inv (a : UInt8) : UInt8 := pw 8 1 a 254
def rot (x : UInt8) (i : Nat) : UInt8 := UInt8.ofNat (x.toNat * 2 ^ i) ||| UInt8.ofNat (x.toNat / 2 ^ (8 - i))
def boxP (x : UInt8) : Nat → UInt8
  | 0 => 99 ^^^ x
  | k + 1 => boxP x k ^^^ rot x (k + 1)
def box (c : UInt8) : UInt8 := boxP (inv c) 4

/-! The document's answer, with natural numbers. -/
def mulL (a b : Nat) : Nat → Nat → Nat
  | 0, p => p
  | f + 1, p => mulL a b f (if b / 2 ^ (7 - f) % 2 = 1 then p ^^^ (a * 2 ^ (7 - f)) else p)
def redL : Nat → Nat → Nat
  | 0, p => p
  | k + 1, p => redL k (if p / 2 ^ (8 + k) % 2 = 1 then p ^^^ (283 * 2 ^ k) else p)
def rmul (a b : Nat) : Nat := redL 7 (mulL a b 8 0)
def xp : Nat → Nat
  | 0 => 1
  | i + 1 => rmul (xp i) 3
def expS : Nat → List Nat
  | 0 => List.replicate 256 0
  | n + 1 => (expS n).set n (xp n)
def logS : Nat → List Nat
  | 0 => List.replicate 256 0
  | n + 1 => (logS n).set (xp n) n
def spin (v : Nat) : Nat := (v * 2 + v / 128) % 256
def outV (e l : List Nat) (c : Nat) : Nat :=
  let v := if 0 < c then e.getD ((255 - l.getD c 0) % 255) 0 else 0
  (((((99 ^^^ v) ^^^ spin v) ^^^ spin (spin v)) ^^^ spin (spin (spin v))) ^^^ spin (spin (spin (spin v))))
def expT : List Nat := [1, 3, 5, 15, 17, 51, 85, 255, 26, 46, 114, 150, 161, 248, 19, 53, 95, 225, 56, 72, 216, 115, 149, 164, 247, 2, 6, 10, 30, 34, 102, 170, 229, 52, 92, 228, 55, 89, 235, 38, 106, 190, 217, 112, 144, 171, 230, 49, 83, 245, 4, 12, 20, 60, 68, 204, 79, 209, 104, 184, 211, 110, 178, 205, 76, 212, 103, 169, 224, 59, 77, 215, 98, 166, 241, 8, 24, 40, 120, 136, 131, 158, 185, 208, 107, 189, 220, 127, 129, 152, 179, 206, 73, 219, 118, 154, 181, 196, 87, 249, 16, 48, 80, 240, 11, 29, 39, 105, 187, 214, 97, 163, 254, 25, 43, 125, 135, 146, 173, 236, 47, 113, 147, 174, 233, 32, 96, 160, 251, 22, 58, 78, 210, 109, 183, 194, 93, 231, 50, 86, 250, 21, 63, 65, 195, 94, 226, 61, 71, 201, 64, 192, 91, 237, 44, 116, 156, 191, 218, 117, 159, 186, 213, 100, 172, 239, 42, 126, 130, 157, 188, 223, 122, 142, 137, 128, 155, 182, 193, 88, 232, 35, 101, 175, 234, 37, 111, 177, 200, 67, 197, 84, 252, 31, 33, 99, 165, 244, 7, 9, 27, 45, 119, 153, 176, 203, 70, 202, 69, 207, 74, 222, 121, 139, 134, 145, 168, 227, 62, 66, 198, 81, 243, 14, 18, 54, 90, 238, 41, 123, 141, 140, 143, 138, 133, 148, 167, 242, 13, 23, 57, 75, 221, 124, 132, 151, 162, 253, 28, 36, 108, 180, 199, 82, 246, 0]
def logT : List Nat := [0, 0, 25, 1, 50, 2, 26, 198, 75, 199, 27, 104, 51, 238, 223, 3, 100, 4, 224, 14, 52, 141, 129, 239, 76, 113, 8, 200, 248, 105, 28, 193, 125, 194, 29, 181, 249, 185, 39, 106, 77, 228, 166, 114, 154, 201, 9, 120, 101, 47, 138, 5, 33, 15, 225, 36, 18, 240, 130, 69, 53, 147, 218, 142, 150, 143, 219, 189, 54, 208, 206, 148, 19, 92, 210, 241, 64, 70, 131, 56, 102, 221, 253, 48, 191, 6, 139, 98, 179, 37, 226, 152, 34, 136, 145, 16, 126, 110, 72, 195, 163, 182, 30, 66, 58, 107, 40, 84, 250, 133, 61, 186, 43, 121, 10, 21, 155, 159, 94, 202, 78, 212, 172, 229, 243, 115, 167, 87, 175, 88, 168, 80, 244, 234, 214, 116, 79, 174, 233, 213, 231, 230, 173, 232, 44, 215, 117, 122, 235, 22, 11, 245, 89, 203, 95, 176, 156, 169, 81, 160, 127, 12, 246, 111, 23, 196, 73, 236, 216, 67, 31, 45, 164, 118, 123, 183, 204, 187, 62, 90, 251, 96, 177, 134, 59, 82, 161, 108, 170, 85, 41, 157, 151, 178, 135, 144, 97, 190, 220, 252, 188, 149, 207, 205, 55, 63, 91, 209, 83, 57, 132, 60, 65, 162, 109, 71, 20, 42, 158, 93, 86, 242, 211, 171, 68, 17, 146, 217, 35, 32, 46, 137, 180, 124, 184, 38, 119, 153, 227, 165, 103, 74, 237, 222, 197, 49, 254, 24, 13, 99, 140, 128, 192, 247, 112, 7]
def sb : List UInt8 := [99, 124, 119, 123, 242, 107, 111, 197, 48, 1, 103, 43, 254, 215, 171, 118, 202, 130, 201, 125, 250, 89, 71, 240, 173, 212, 162, 175, 156, 164, 114, 192, 183, 253, 147, 38, 54, 63, 247, 204, 52, 165, 229, 241, 113, 216, 49, 21, 4, 199, 35, 195, 24, 150, 5, 154, 7, 18, 128, 226, 235, 39, 178, 117, 9, 131, 44, 26, 27, 110, 90, 160, 82, 59, 214, 179, 41, 227, 47, 132, 83, 209, 0, 237, 32, 252, 177, 91, 106, 203, 190, 57, 74, 76, 88, 207, 208, 239, 170, 251, 67, 77, 51, 133, 69, 249, 2, 127, 80, 60, 159, 168, 81, 163, 64, 143, 146, 157, 56, 245, 188, 182, 218, 33, 16, 255, 243, 210, 205, 12, 19, 236, 95, 151, 68, 23, 196, 167, 126, 61, 100, 93, 25, 115, 96, 129, 79, 220, 34, 42, 144, 136, 70, 238, 184, 20, 222, 94, 11, 219, 224, 50, 58, 10, 73, 6, 36, 92, 194, 211, 172, 98, 145, 149, 228, 121, 231, 200, 55, 109, 141, 213, 78, 169, 108, 86, 244, 234, 101, 122, 174, 8, 186, 120, 37, 46, 28, 166, 180, 198, 232, 221, 116, 31, 75, 189, 139, 138, 112, 62, 181, 102, 72, 3, 246, 14, 97, 53, 87, 185, 134, 193, 29, 158, 225, 248, 152, 17, 105, 217, 142, 148, 155, 30, 135, 233, 206, 85, 40, 223, 140, 161, 137, 13, 191, 230, 66, 104, 65, 153, 45, 15, 176, 84, 187, 22]
def S (x : UInt8) : UInt8 := sb.getD x.toNat 0
theorem sb_len : sb.length = 256 := by decide +kernel
theorem sb_box : ∀ i, i < 256 → box (UInt8.ofNat i) = sb.getD i 0 := by decide +kernel
theorem rmul_lt3 : ∀ x, x < 256 → rmul x 3 < 256 := by decide +kernel
theorem xp_lt : ∀ n, xp n < 256
  | 0 => by decide
  | n + 1 => rmul_lt3 _ (xp_lt n)
theorem xp_exp : ∀ n, n < 255 → xp n = expT.getD n 0 := by
  have h0 : xp 0 = expT.getD 0 0 := by decide
  have hs : ∀ n, n < 254 → rmul (expT.getD n 0) 3 = expT.getD (n + 1) 0 := by decide +kernel
  intro n
  induction n with
  | zero => intro _; exact h0
  | succ n ih => intro h; rw [xp, ih (by omega)]; exact hs n (by omega)
def expS' : Nat → List Nat
  | 0 => List.replicate 256 0
  | n + 1 => (expS' n).set n (expT.getD n 0)
def logS' : Nat → List Nat
  | 0 => List.replicate 256 0
  | n + 1 => (logS' n).set (expT.getD n 0) n
theorem expS_eq : ∀ n, n ≤ 255 → expS n = expS' n
  | 0, _ => rfl
  | n + 1, h => by rw [expS, expS', expS_eq n (by omega), xp_exp n (by omega)]
theorem logS_eq : ∀ n, n ≤ 255 → logS n = logS' n
  | 0, _ => rfl
  | n + 1, h => by rw [logS, logS', logS_eq n (by omega), xp_exp n (by omega)]
theorem exp_T : expS 255 = expT := by rw [expS_eq 255 (by omega)]; decide +kernel
theorem log_T : logS 255 = logT := by rw [logS_eq 255 (by omega)]; decide +kernel
theorem log_le : ∀ c, c < 256 → logT.getD c 0 ≤ 254 := by decide +kernel
theorem outV_sb : ∀ c, c < 256 → outV expT logT c = (sb.getD c 0).toNat := by decide +kernel
theorem rmul1 : ∀ x, x < 256 → rmul x 1 = x := by decide +kernel
theorem rmul2 : ∀ x, x < 256 → rmul x 2 = (dbl (UInt8.ofNat x)).toNat := by decide +kernel
theorem rmul3 : ∀ x, x < 256 → rmul x 3 = (dbl (UInt8.ofNat x) ^^^ UInt8.ofNat x).toNat := by decide +kernel

/-! Round keys. -/
def pwr : Nat → UInt8
  | 0 => 1
  | r + 1 => dbl (pwr r)
def nx (k : List UInt8) (p : UInt8) : List UInt8 :=
  match k with
  | [k0, k1, k2, k3, k4, k5, k6, k7, k8, k9, k10, k11, k12, k13, k14, k15] =>
    let a0 := (k0 ^^^ S k13) ^^^ p
    let a1 := k1 ^^^ S k14
    let a2 := k2 ^^^ S k15
    let a3 := k3 ^^^ S k12
    let b0 := k4 ^^^ a0
    let b1 := k5 ^^^ a1
    let b2 := k6 ^^^ a2
    let b3 := k7 ^^^ a3
    let c0 := k8 ^^^ b0
    let c1 := k9 ^^^ b1
    let c2 := k10 ^^^ b2
    let c3 := k11 ^^^ b3
    [a0, a1, a2, a3, b0, b1, b2, b3, c0, c1, c2, c3, k12 ^^^ c0, k13 ^^^ c1, k14 ^^^ c2, k15 ^^^ c3]
  | _ => []
def kr (key : List UInt8) : Nat → List UInt8
  | 0 => key
  | r + 1 => nx (kr key r) (pwr r)
theorem sixteen {α : Type} {l : List α} (h : l.length = 16) : ∃ k0 k1 k2 k3 k4 k5 k6 k7 k8 k9 k10 k11 k12 k13 k14 k15, l = [k0, k1, k2, k3, k4, k5, k6, k7, k8, k9, k10, k11, k12, k13, k14, k15] := by
  match l, h with
  | [k0, k1, k2, k3, k4, k5, k6, k7, k8, k9, k10, k11, k12, k13, k14, k15], _ => exact ⟨k0, k1, k2, k3, k4, k5, k6, k7, k8, k9, k10, k11, k12, k13, k14, k15, rfl⟩
theorem nx_len {k : List UInt8} (h : k.length = 16) (p : UInt8) : (nx k p).length = 16 := by
  obtain ⟨k0, k1, k2, k3, k4, k5, k6, k7, k8, k9, k10, k11, k12, k13, k14, k15, rfl⟩ := sixteen h
  rfl
theorem kr_len {key : List UInt8} (h : key.length = 16) : ∀ r, (kr key r).length = 16
  | 0 => h
  | r + 1 => nx_len (kr_len h r) _
theorem nx_low {k : List UInt8} (h : k.length = 16) (p : UInt8) (j : Nat) (hj : j < 4) : (nx k p).getD j 0 = if j = 0 then (k.getD j 0 ^^^ S (k.getD (12 + (j + 1) % 4) 0)) ^^^ p else k.getD j 0 ^^^ S (k.getD (12 + (j + 1) % 4) 0) := by
  obtain ⟨k0, k1, k2, k3, k4, k5, k6, k7, k8, k9, k10, k11, k12, k13, k14, k15, rfl⟩ := sixteen h
  rcases (show j = 0 ∨ j = 1 ∨ j = 2 ∨ j = 3 by omega) with rfl | rfl | rfl | rfl <;> rfl
theorem nx_high {k : List UInt8} (h : k.length = 16) (p : UInt8) (j : Nat) (h4 : 4 ≤ j) (hj : j < 16) : (nx k p).getD j 0 = k.getD j 0 ^^^ (nx k p).getD (j - 4) 0 := by
  obtain ⟨k0, k1, k2, k3, k4, k5, k6, k7, k8, k9, k10, k11, k12, k13, k14, k15, rfl⟩ := sixteen h
  rcases (show j = 4 ∨ j = 5 ∨ j = 6 ∨ j = 7 ∨ j = 8 ∨ j = 9 ∨ j = 10 ∨ j = 11 ∨ j = 12 ∨ j = 13 ∨ j = 14 ∨ j = 15 by omega) with rfl | rfl | rfl | rfl | rfl | rfl | rfl | rfl | rfl | rfl | rfl | rfl <;> rfl
/-- An octet of the round keys. -/
def ak (key : List UInt8) (n : Nat) : UInt8 := (kr key (n / 16)).getD (n % 16) 0
theorem ak_low {key : List UInt8} (h : key.length = 16) (r j : Nat) (hj : j < 4) : ak key (16 * (r + 1) + j) = if j = 0 then (ak key (16 * r + j) ^^^ S (ak key (16 * r + (12 + (j + 1) % 4)))) ^^^ pwr r else ak key (16 * r + j) ^^^ S (ak key (16 * r + (12 + (j + 1) % 4))) := by
  have e1 : (16 * (r + 1) + j) / 16 = r + 1 := by omega
  have e2 : (16 * (r + 1) + j) % 16 = j := by omega
  have e3 : (16 * r + j) / 16 = r := by omega
  have e4 : (16 * r + j) % 16 = j := by omega
  have e5 : (16 * r + (12 + (j + 1) % 4)) / 16 = r := by omega
  have e6 : (16 * r + (12 + (j + 1) % 4)) % 16 = 12 + (j + 1) % 4 := by omega
  simp only [ak, e1, e2, e3, e4, e5, e6]
  exact nx_low (kr_len h r) (pwr r) j hj
theorem ak_high {key : List UInt8} (h : key.length = 16) (r j : Nat) (h4 : 4 ≤ j) (hj : j < 16) : ak key (16 * (r + 1) + j) = ak key (16 * r + j) ^^^ ak key (16 * (r + 1) + (j - 4)) := by
  have e1 : (16 * (r + 1) + j) / 16 = r + 1 := by omega
  have e2 : (16 * (r + 1) + j) % 16 = j := by omega
  have e3 : (16 * r + j) / 16 = r := by omega
  have e4 : (16 * r + j) % 16 = j := by omega
  have e5 : (16 * (r + 1) + (j - 4)) / 16 = r + 1 := by omega
  have e6 : (16 * (r + 1) + (j - 4)) % 16 = j - 4 := by omega
  simp only [ak, e1, e2, e3, e4, e5, e6]
  exact nx_high (kr_len h r) (pwr r) j h4 hj
theorem ak_key {key : List UInt8} (n : Nat) (hn : n < 16) : ak key n = key.getD n 0 := by
  rw [ak, Nat.div_eq_of_lt hn, Nat.mod_eq_of_lt hn]; rfl

/-! Rounds. -/
def sh (b : List UInt8) (n : Nat) : UInt8 := S (b.getD (4 * ((n / 4 + n % 4) % 4) + n % 4) 0)
def mx (c : Nat → UInt8) (i : Nat) : UInt8 := (((dbl (c i) ^^^ dbl (c ((i + 1) % 4))) ^^^ c ((i + 1) % 4)) ^^^ c ((i + 2) % 4)) ^^^ c ((i + 3) % 4)
def rnd (b : List UInt8) (last : Bool) : List UInt8 := (List.range 16).map fun n => if last then sh b n else mx (fun i => sh b (4 * (n / 4) + i)) (n % 4)
def add (b k : List UInt8) : List UInt8 := (List.range 16).map fun n => b.getD n 0 ^^^ k.getD n 0
def state (key b : List UInt8) : Nat → List UInt8
  | 0 => add b (kr key 0)
  | r + 1 => add (rnd (state key b r) (r + 1 == 10)) (kr key (r + 1))
def block (key b : List UInt8) : List UInt8 := state key b 10
theorem rnd_len (b : List UInt8) (l : Bool) : (rnd b l).length = 16 := by simp [rnd]
theorem add_len (b k : List UInt8) : (add b k).length = 16 := by simp [add]
theorem state_len (key b : List UInt8) : ∀ r, (state key b r).length = 16
  | 0 => add_len _ _
  | r + 1 => add_len _ _
theorem block_len (key b : List UInt8) : (block key b).length = 16 := state_len key b 10
theorem range_get {α : Type} (f : Nat → α) (N n : Nat) (d : α) (h : n < N) : ((List.range N).map f).getD n d = f n := by
  simp [List.getD_eq_getElem?_getD, h]
theorem rnd_get (b : List UInt8) (l : Bool) (n : Nat) (h : n < 16) : (rnd b l).getD n 0 = if l then sh b n else mx (fun i => sh b (4 * (n / 4) + i)) (n % 4) := range_get _ _ _ _ h
theorem add_get (b k : List UInt8) (n : Nat) (h : n < 16) : (add b k).getD n 0 = b.getD n 0 ^^^ k.getD n 0 := range_get _ _ _ _ h

/-! The mask. -/
def first (nonce : List UInt8) : Nat := beNat (nonce.drop 12)
def ctr (nonce : List UInt8) (i : Nat) : List UInt8 := nonce.take 12 ++ be 4 ((first nonce + i) % 4294967296)
def maskB (key nonce : List UInt8) (p : Nat) : UInt8 := (block (key.take 16) (ctr nonce (p / 16))).getD (p % 16) 0
def mask (key nonce text : List UInt8) : List UInt8 := (List.range text.length).map fun p => text.getD p 0 ^^^ maskB key nonce p
theorem mask_len (key nonce text : List UInt8) : (mask key nonce text).length = text.length := by simp [mask]
theorem mask_get (key nonce text : List UInt8) (p : Nat) (h : p < text.length) : (mask key nonce text).getD p 0 = text.getD p 0 ^^^ maskB key nonce p := range_get _ _ _ _ h
def tag (key nonce beside masked : List UInt8) : List UInt8 := (Mac.tag (key.drop 16) (be 4 beside.length ++ (beside ++ (nonce ++ masked)))).take 16
theorem tag_len (key nonce beside masked : List UInt8) : (tag key nonce beside masked).length = 16 := by simp [tag, Mac.tag_len]
end Aes
end Go.AM


set_option autoImplicit false
namespace Go.AM
namespace Vault
def wrapW : List UInt8 := [119, 114, 97, 112]
def nonceW : List UInt8 := [110, 111, 110, 99, 101]
/-- A secret's context, the keys of it. -/
def ctx (g : List UInt8) (e : Nat) : List UInt8 := be 1 g.length ++ g ++ be 8 e
def vk (key : List UInt8) : List UInt8 := Kdf.label key wrapW [] 48
def vn (key c : List UInt8) : List UInt8 := Kdf.label key nonceW c 16
def k0 : List UInt8 := [169, 244, 63, 67, 64, 52, 17, 249, 117, 86, 100, 57, 122, 167, 125, 1, 230, 91, 103, 131, 115, 144, 199, 68, 248, 159, 166, 218, 250, 248, 1, 114, 135, 15, 162, 208, 108, 252, 211, 18, 83, 148, 90, 178, 179, 251, 67, 14]
def n3 : List UInt8 := [8, 190, 219, 198, 217, 21, 206, 227, 25, 6, 89, 27, 186, 224, 186, 54]
def n4 : List UInt8 := [184, 102, 163, 253, 77, 158, 128, 5, 108, 65, 104, 250, 253, 115, 180, 138]
def m3 : List UInt8 := [247, 169, 26, 226, 24, 129, 224, 169, 173, 123, 5, 148, 71, 154, 82, 74, 108, 148, 179, 118, 179, 215, 27, 211, 244, 97, 172, 107, 233, 136, 76, 169]
def t3 : List UInt8 := [8, 206, 240, 108, 85, 27, 1, 138, 119, 108, 80, 208, 57, 159, 143, 149]
end Vault
end Go.AM


set_option autoImplicit false
namespace Go.AM
open Go

theorem IsTy.record {avs : List AV} (h : IsTy (.struct (.cons tyI (.cons tyB (.cons tyI (.cons tyI (.cons tyI (.cons tyB (.cons tyB (.cons tyB (.cons tyB .nil)))))))))) avs) : ∃ R : Rec, avs = R.cells := by
  obtain ⟨x1, y1, rfl, t1, h⟩ := isF_cons (isTy_struct h)
  obtain ⟨x2, y2, rfl, t2, h⟩ := isF_cons h
  obtain ⟨x3, y3, rfl, t3, h⟩ := isF_cons h
  obtain ⟨x4, y4, rfl, t4, h⟩ := isF_cons h
  obtain ⟨x5, y5, rfl, t5, h⟩ := isF_cons h
  obtain ⟨x6, y6, rfl, t6, h⟩ := isF_cons h
  obtain ⟨x7, y7, rfl, t7, h⟩ := isF_cons h
  obtain ⟨x8, y8, rfl, t8, h⟩ := isF_cons h
  obtain ⟨x9, y9, rfl, t9, h⟩ := isF_cons h
  obtain rfl := isF_nil h
  obtain ⟨n1, rfl, _⟩ := isTy_int t1
  obtain ⟨l2, rfl, _⟩ := t2.bytes
  obtain ⟨n3, rfl, _⟩ := isTy_int t3
  obtain ⟨n4, rfl, _⟩ := isTy_int t4
  obtain ⟨n5, rfl, _⟩ := isTy_int t5
  obtain ⟨l6, rfl, _⟩ := t6.bytes
  obtain ⟨l7, rfl, _⟩ := t7.bytes
  obtain ⟨l8, rfl, _⟩ := t8.bytes
  obtain ⟨l9, rfl, _⟩ := t9.bytes
  exact ⟨⟨n1, l2, n3, n4, n5, l6, l7, l8, l9⟩, rfl⟩
end Go.AM


set_option autoImplicit false
namespace Go.AM
open Go

/-! ### Lists of octets -/
def textsV (l : List (List UInt8)) : AV := .sl 1 l.length (l.map fun b => bytesV b .any) .any
theorem text_at1 {l : List (List UInt8)} {i : Nat} (h : i < l.length) : List.take 1 (List.drop i (l.map fun b => bytesV b .any)) = [bytesV l[i] .any] := by
  rw [List.drop_eq_getElem_cons (by simpa using h)]
  simp
theorem IsTy.texts {avs : List AV} (h : IsTy (.slice 1 tyB) avs) : ∃ l : List (List UInt8), avs = [textsV l] := by
  obtain ⟨els, rfl, _, hall⟩ := IsTy.rows h
  have key : ∀ els : List (List AV), (∀ el ∈ els, el.length = 1 ∧ IsTy tyB el) → ∃ l : List (List UInt8), l.length = els.length ∧ els.flatten = l.map fun b => bytesV b .any := by
    intro els
    induction els with
    | nil => intro _; exact ⟨[], rfl, rfl⟩
    | cons e els ih =>
      intro h
      obtain ⟨l, h1, h2⟩ := ih (fun el hel => h el (by simp [hel]))
      obtain ⟨_, t⟩ := h e (by simp)
      obtain ⟨b, rfl, _⟩ := t.bytes
      exact ⟨b :: l, by simp [h1], by simp [h2]⟩
  obtain ⟨l, h1, h2⟩ := key els hall
  exact ⟨l, by rw [← h1, h2]; rfl⟩
def strC (b : List UInt8) : AV := .v (.string ⟨b.toArray⟩)
def strsV (l : List (List UInt8)) : AV := .sl 1 l.length (l.map strC) .any
theorem str_at1 {l : List (List UInt8)} {i : Nat} (h : i < l.length) : List.take 1 (List.drop i (l.map strC)) = [strC l[i]] := by
  rw [List.drop_eq_getElem_cons (by simpa using h)]
  simp

def smallX (l : List (List UInt8)) : Prop := l.length ≤ 12 ∧ ∀ b ∈ l, b.length ≤ 4000
instance (l : List (List UInt8)) : Decidable (smallX l) := by unfold smallX; infer_instance
def r30 : Rec := ⟨2, [103], 0, 0, 0, [], List.replicate 32 0, List.replicate 32 0, List.replicate 48 0⟩
theorem r30_right : r30.right := by decide
end Go.AM


set_option autoImplicit false
namespace Go.Proofs.YtoagkleecgngdaaGreatDoor
open Go Go.AM Go.Proofs


variable {Γ : Nat → List AV}

set_option maxHeartbeats 1000000 in
theorem small30_calls (l : List (List UInt8)) (s : AS) : ACalls Tryz.prog Γ 33 [textsV l] s (fun r s' => r = .v (.bool (decide (smallX l))) ∧ s' = s) := by
  refine acalls_body Tryz.func33 rfl Tryz.ntmps33 Tryz.results33 (by simp) ?_
  have hat := fun (i : Nat) (hi : i < l.length) => text_at1 hi
  unfold textsV
  generalize hX : (l.map fun b => bytesV b .any) = X at *
  refine wS fun K hK => ?_
  simp only [↓DN,UP,DF,Qa,Qb,Qc,Qd,Qe,Qf,Qg,Qh,reduceCtorEq,↓reduceIte,Na,Nb,Nc,Nk,Nf,Ng,Nh,Za,Zb,Zc,TT]
  refine hK _ _ ?_;clear hK K
  refine wK fun K hK => ?_
  by_cases h12 : l.length ≤ 12
  · refine wS fun K hK => ?_
    simp only [↓DN,UP,DF,Qa,Qb,Qc,Qd,Qe,Qf,Qg,Qh,reduceCtorEq,↓reduceIte,Na,Nb,Nc,Nk,Nf,Ng,Nh,Za,Zb,Zc,TT, decide_eq_false (show ¬ (12 : Int) < (l.length : Int) by omega)]
    refine hK _ _ ?_;clear hK K
    refine wC fun X Y hX hY => ?_
    simp only [↓DN,UP,DF,Qa,Qb,Qc,Qd,Qe,Qf,Qg,Qh,reduceCtorEq,↓reduceIte,Na,Nb,Nc,Nk,Nf,Ng,Nh,Za,Zb,Zc,TT, DB]
    refine hY ?_;clear hX hY X Y
    refine awp_skip ?_
    refine hK _ _ ?_;clear hK K
    refine wK fun K hK => ?_
    refine wS fun K hK => ?_
    simp only [↓DN,UP,DF,Qa,Qb,Qc,Qd,Qe,Qf,Qg,Qh,reduceCtorEq,↓reduceIte,Na,Nb,Nc,Nk,Nf,Ng,Nh,Za,Zb,Zc,TT]
    refine hK _ _ ?_;clear hK K
    refine awp_block ?_
    refine awp_loop (fun E s2 => ∃ i : Nat, i ≤ l.length ∧ (∀ b ∈ l.take i, b.length ≤ 4000) ∧ E 3 = .v (.int .i64 i) ∧ E 0 = .sl 1 l.length X .any ∧ s2 = s)
      (fun E _ => match E 3 with | .v (.int _ i) => l.length - i.toNat | _ => 0) ?_ ?_
    · exact ⟨0, Nat.zero_le _, by simp, by simp only [upd, Nc, ↓reduceIte]; rfl, by simp only [upd, initE, List.getD_cons_zero, List.getD_cons_succ, Nc, ↓reduceIte], rfl⟩
    · rintro E1 s4 ⟨i, hi, hall, g3, g0, rfl⟩ -
      refine wK fun K2 hK2 => ?_
      by_cases hi' : i < l.length
      · refine wS fun K hK => ?_
        simp only [↓DN,UP,DF,Qa,Qb,Qc,Qd,Qe,Qf,Qg,Qh,reduceCtorEq,↓reduceIte,Na,Nb,Nc,Nk,Nf,Ng,Nh,Za,Zb,Zc,TT, g3, g0, eye_lt_nat, decide_eq_true hi']
        refine hK _ _ ?_;clear hK K
        refine wC fun X Y hX hY => ?_
        simp only [↓DN,UP,DF,Qa,Qb,Qc,Qd,Qe,Qf,Qg,Qh,reduceCtorEq,↓reduceIte,Na,Nb,Nc,Nk,Nf,Ng,Nh,Za,Zb,Zc,TT, DB]
        refine hX ?_;clear hX hY X Y
        refine awp_skip ?_
        refine hK2 _ _ ?_;clear hK2 K2
        refine wK fun K3 hK3 => ?_
        refine awp_block ?_
        have hge : (0 : Int) ≤ (i : Int) := by omega
        have hat' := hat i hi'
        have htk := List.take_succ_eq_append_getElem hi'
        have hmem := List.getElem_mem hi'
        generalize l[i] = b at *
        unfold bytesV at hat'
        by_cases hb : b.length ≤ 4000
        · refine wS fun K hK => ?_
          simp only [↓DN,UP,DF,Qa,Qb,Qc,Qd,Qe,Qf,Qg,Qh,reduceCtorEq,↓reduceIte,Na,Nb,Nc,Nk,Nf,Ng,Nh,Za,Zb,Zc,TT, g3, g0, hge, eye_lt_nat, hi', hat', decide_eq_false (show ¬ (4000 : Int) < (b.length : Int) by omega)]
          refine hK _ _ ?_;clear hK K
          refine wC fun X Y hX hY => ?_
          simp only [↓DN,UP,DF,Qa,Qb,Qc,Qd,Qe,Qf,Qg,Qh,reduceCtorEq,↓reduceIte,Na,Nb,Nc,Nk,Nf,Ng,Nh,Za,Zb,Zc,TT, DB]
          refine hY ?_;clear hX hY X Y
          refine awp_skip ?_
          simp only [blockQ, thenQ, if_true, if_false]
          refine hK3 _ _ ?_;clear hK3 K3
          refine wE fun K hK => ?_
          simp only [↓DN,UP,DF,Qa,Qb,Qc,Qd,Qe,Qf,Qg,Qh,reduceCtorEq,↓reduceIte,Na,Nb,Nc,Nk,Nf,Ng,Nh,Za,Zb,Zc,TT, g3, eye_succM i (by omega)]
          refine hK _ _ ?_;clear hK K
          refine ⟨⟨i + 1, by omega, ?_, by simp only [upd, Nc, ↓reduceIte], by simp only [upd, g0, Nc, ↓reduceIte], rfl⟩, ?_⟩
          · rw [htk]
            intro x hx
            rw [List.mem_append, List.mem_singleton] at hx
            rcases hx with hx | rfl
            · exact hall x hx
            · exact hb
          · simp only [g3, upd, ↓reduceIte]
            omega
        · have hno : ¬ smallX l := fun q => hb (q.2 b hmem)
          refine wS fun K hK => ?_
          simp only [↓DN,UP,DF,Qa,Qb,Qc,Qd,Qe,Qf,Qg,Qh,reduceCtorEq,↓reduceIte,Na,Nb,Nc,Nk,Nf,Ng,Nh,Za,Zb,Zc,TT, g3, g0, hge, eye_lt_nat, hi', hat', decide_eq_true (show (4000 : Int) < (b.length : Int) by omega)]
          refine hK _ _ ?_;clear hK K
          refine wC fun X Y hX hY => ?_
          simp only [↓DN,UP,DF,Qa,Qb,Qc,Qd,Qe,Qf,Qg,Qh,reduceCtorEq,↓reduceIte,Na,Nb,Nc,Nk,Nf,Ng,Nh,Za,Zb,Zc,TT, DB]
          refine hX ?_;clear hX hY X Y
          refine wS fun K hK => ?_
          simp only [↓DN,UP,DF,Qa,Qb,Qc,Qd,Qe,Qf,Qg,Qh,reduceCtorEq,↓reduceIte,Na,Nb,Nc,Nk,Nf,Ng,Nh,Za,Zb,Zc,TT]
          refine hK _ _ ?_;clear hK K
          refine awp_ret ?_
          try simp only [thenQ, blockQ]
          simp only [retQ, AEnds, aresL, ares, List.toList_toArray, ↓upd_same]; try simp only [UP,DF,Nc,↓reduceIte,DT]
          rw [decide_eq_false hno]
          exact ⟨_, _, AV.weak.refl _, AS.le.refl _, rfl, rfl⟩
      · refine wS fun K hK => ?_
        simp only [↓DN,UP,DF,Qa,Qb,Qc,Qd,Qe,Qf,Qg,Qh,reduceCtorEq,↓reduceIte,Na,Nb,Nc,Nk,Nf,Ng,Nh,Za,Zb,Zc,TT, g3, g0, eye_lt_nat, decide_eq_false hi']
        refine hK _ _ ?_;clear hK K
        refine wC fun X Y hX hY => ?_
        simp only [↓DN,UP,DF,Qa,Qb,Qc,Qd,Qe,Qf,Qg,Qh,reduceCtorEq,↓reduceIte,Na,Nb,Nc,Nk,Nf,Ng,Nh,Za,Zb,Zc,TT, DB]
        refine hY ?_;clear hX hY X Y
        refine awp_exit ?_
        simp only [thenQ, blockQ, if_true]
        refine hK _ _ ?_;clear hK hK2 K2 K
        obtain rfl : i = l.length := by omega
        rw [List.take_length] at hall
        refine wS fun K hK => ?_
        simp only [↓DN,UP,DF,Qa,Qb,Qc,Qd,Qe,Qf,Qg,Qh,reduceCtorEq,↓reduceIte,Na,Nb,Nc,Nk,Nf,Ng,Nh,Za,Zb,Zc,TT]
        refine hK _ _ ?_;clear hK K
        refine awp_ret ?_
        try simp only [thenQ, blockQ]
        simp only [retQ, AEnds, aresL, ares, List.toList_toArray, ↓upd_same]; try simp only [UP,DF,Nc,↓reduceIte,DT]
        rw [decide_eq_true (show smallX l from ⟨h12, hall⟩)]
        exact ⟨_, _, AV.weak.refl _, AS.le.refl _, rfl, rfl⟩
  · refine wS fun K hK => ?_
    simp only [↓DN,UP,DF,Qa,Qb,Qc,Qd,Qe,Qf,Qg,Qh,reduceCtorEq,↓reduceIte,Na,Nb,Nc,Nk,Nf,Ng,Nh,Za,Zb,Zc,TT, decide_eq_true (show (12 : Int) < (l.length : Int) by omega)]
    refine hK _ _ ?_;clear hK K
    refine wC fun X Y hX hY => ?_
    simp only [↓DN,UP,DF,Qa,Qb,Qc,Qd,Qe,Qf,Qg,Qh,reduceCtorEq,↓reduceIte,Na,Nb,Nc,Nk,Nf,Ng,Nh,Za,Zb,Zc,TT, DB]
    refine hX ?_;clear hX hY X Y
    refine wS fun K hK => ?_
    simp only [↓DN,UP,DF,Qa,Qb,Qc,Qd,Qe,Qf,Qg,Qh,reduceCtorEq,↓reduceIte,Na,Nb,Nc,Nk,Nf,Ng,Nh,Za,Zb,Zc,TT]
    refine hK _ _ ?_;clear hK K
    refine awp_ret ?_
    try simp only [thenQ, blockQ]
    simp only [retQ, AEnds, aresL, ares, List.toList_toArray, ↓upd_same]; try simp only [UP,DF,Nc,↓reduceIte,DT]
    rw [decide_eq_false (fun q : smallX l => h12 q.1)]
    exact ⟨_, _, AV.weak.refl _, AS.le.refl _, rfl, rfl⟩

set_option maxHeartbeats 1000000 in
theorem texts_calls (l : List (List UInt8)) (hl : l.length ≤ 2 ^ 30) (s : AS) : ACalls Tryz.prog Γ 36 [textsV l] s (fun r s' => r = strsV l ∧ s' = s) := by
  refine acalls_body Tryz.func36 rfl Tryz.ntmps36 Tryz.results36 (by simp) ?_
  have hat := fun (i : Nat) (hi : i < l.length) => text_at1 hi
  have hsl : strsV l = .sl 1 l.length (l.map strC) .any := rfl
  rw [hsl]
  unfold textsV
  generalize hX : (l.map fun b => bytesV b .any) = X at *
  refine wS fun K hK => ?_
  simp only [↓DN,UP,DF,Qa,Qb,Qc,Qd,Qe,Qf,Qg,Qh,reduceCtorEq,↓reduceIte,Na,Nb,Nc,Nk,Nf,Ng,Nh,Za,Zb,Zc,TT]
  refine hK _ _ ?_;clear hK K
  refine wS fun K hK => ?_
  simp only [↓DN,UP,DF,Qa,Qb,Qc,Qd,Qe,Qf,Qg,Qh,reduceCtorEq,↓reduceIte,Na,Nb,Nc,Nk,Nf,Ng,Nh,Za,Zb,Zc,TT]
  refine hK _ _ ?_;clear hK K
  refine wK fun K hK => ?_
  refine wS fun K hK => ?_
  simp only [↓DN,UP,DF,Qa,Qb,Qc,Qd,Qe,Qf,Qg,Qh,reduceCtorEq,↓reduceIte,Na,Nb,Nc,Nk,Nf,Ng,Nh,Za,Zb,Zc,TT]
  refine hK _ _ ?_;clear hK K
  refine awp_block ?_
  refine awp_loop (fun E s2 => ∃ (i : Nat) (x : AV), i ≤ l.length ∧ E 4 = .v (.int .i64 i) ∧ E 0 = .sl 1 l.length X .any ∧ E 3 = x ∧ RBuf 1 s s2 x i ((l.take i).map strC) ∧ s.le s2)
    (fun E _ => match E 4 with | .v (.int _ i) => l.length - i.toNat | _ => 0) ?_ ?_
  · exact ⟨0, _, Nat.zero_le _, by simp only [upd, Nc, ↓reduceIte]; rfl, by simp only [upd, initE, List.getD_cons_zero, List.getD_cons_succ, Nc, ↓reduceIte], by simp only [upd, Nc, ↓reduceIte]; rfl, RBuf.nil _ _ _, AS.le.refl _⟩
  · rintro E1 s4 ⟨i, x, hi, g4, g0, g3, hx, hle⟩ -
    refine wK fun K2 hK2 => ?_
    by_cases hi' : i < l.length
    · refine wS fun K hK => ?_
      simp only [↓DN,UP,DF,Qa,Qb,Qc,Qd,Qe,Qf,Qg,Qh,reduceCtorEq,↓reduceIte,Na,Nb,Nc,Nk,Nf,Ng,Nh,Za,Zb,Zc,TT, g4, g0, eye_lt_nat, decide_eq_true hi']
      refine hK _ _ ?_;clear hK K
      refine wC fun X Y hX hY => ?_
      simp only [↓DN,UP,DF,Qa,Qb,Qc,Qd,Qe,Qf,Qg,Qh,reduceCtorEq,↓reduceIte,Na,Nb,Nc,Nk,Nf,Ng,Nh,Za,Zb,Zc,TT, DB]
      refine hX ?_;clear hX hY X Y
      refine awp_skip ?_
      refine hK2 _ _ ?_;clear hK2 K2
      refine wK fun K3 hK3 => ?_
      refine awp_block ?_
      have hge : (0 : Int) ≤ (i : Int) := by omega
      have hat' := hat i hi'
      have htk := List.take_succ_eq_append_getElem hi'
      have hend : ∀ (E : Env) (s5 : AS) (x2 : AV), E 4 = .v (.int .i64 i) → E 0 = .sl 1 l.length X .any → E 3 = x2 → RBuf 1 s s5 x2 (i + 1) ((l.take (i + 1)).map strC) → s.le s5 → K3 E s5 := by
        intro E s5 x2 f4 f0 f3 fx fle
        refine hK3 _ _ ?_;clear hK3 K3
        refine wE fun K hK => ?_
        simp only [↓DN,UP,DF,Qa,Qb,Qc,Qd,Qe,Qf,Qg,Qh,reduceCtorEq,↓reduceIte,Na,Nb,Nc,Nk,Nf,Ng,Nh,Za,Zb,Zc,TT, f4, eye_succM i (by omega)]
        refine hK _ _ ?_;clear hK K
        refine ⟨⟨i + 1, x2, by omega, by simp only [upd, Nc, ↓reduceIte], by simp only [upd, f0, Nc, ↓reduceIte], by simp only [upd, f3, Nc, ↓reduceIte], fx, fle⟩, ?_⟩
        simp only [g4, upd, ↓reduceIte]
        omega
      clear hK3
      rw [htk, List.map_append, List.map_cons, List.map_nil] at hend
      generalize l[i] = b at *
      generalize (l.take i).map strC = L at *
      unfold strC at hend
      unfold bytesV at hat'
      rcases hx with ⟨rfl, hi0, hL0⟩ | ⟨t', e, rfl, ht', ht0⟩
      · refine wE fun K hK => ?_
        simp only [↓DN,UP,DF,Qa,Qb,Qc,Qd,Qe,Qf,Qg,Qh,reduceCtorEq,↓reduceIte,Na,Nb,Nc,Nk,Nf,Ng,Nh,Za,Zb,Zc,TT, g3, g4, g0, hge, eye_lt_nat, hi', hat', nilS, List.replicate_succ]
        intro t' ht'
        refine hK _ _ ?_
        simp only [blockQ, thenQ, if_true, if_false]
        subst hi0
        rw [hL0] at hend
        exact hend _ _ (.sl 1 1 [.v (.string ⟨b.toArray⟩)] (.own t' 0)) (by simp only [upd, g4, Nc, ↓reduceIte]) (by simp only [upd, g0, Nc, ↓reduceIte]) (by simp only [upd, Nc, ↓reduceIte]) (.inr ⟨t', 0, rfl, by simp [AS.gain], own_none_le hle ht'⟩) (AS.le_gain hle (own_none_le hle ht') 0)
      · refine wE fun K hK => ?_
        simp only [↓DN,UP,DF,Qa,Qb,Qc,Qd,Qe,Qf,Qg,Qh,reduceCtorEq,↓reduceIte,Na,Nb,Nc,Nk,Nf,Ng,Nh,Za,Zb,Zc,TT, g3, g4, g0, hge, eye_lt_nat, hi', hat', ht', List.replicate_succ]
        refine ⟨by omega, by omega, hK _ _ ?_⟩
        simp only [blockQ, thenQ, if_true, if_false]
        exact hend _ _ (.sl 1 (i + 1) (L ++ [.v (.string ⟨b.toArray⟩)]) (.own t' (e + 1))) (by simp only [upd, g4, Nc, ↓reduceIte]) (by simp only [upd, g0, Nc, ↓reduceIte]) (by simp only [upd, Nc, ↓reduceIte]) (.inr ⟨t', e + 1, rfl, by simp [AS.gain], ht0⟩) (AS.le_gain hle ht0 (e + 1))
    · refine wS fun K hK => ?_
      simp only [↓DN,UP,DF,Qa,Qb,Qc,Qd,Qe,Qf,Qg,Qh,reduceCtorEq,↓reduceIte,Na,Nb,Nc,Nk,Nf,Ng,Nh,Za,Zb,Zc,TT, g4, g0, eye_lt_nat, decide_eq_false hi']
      refine hK _ _ ?_;clear hK K
      refine wC fun X Y hX hY => ?_
      simp only [↓DN,UP,DF,Qa,Qb,Qc,Qd,Qe,Qf,Qg,Qh,reduceCtorEq,↓reduceIte,Na,Nb,Nc,Nk,Nf,Ng,Nh,Za,Zb,Zc,TT, DB]
      refine hY ?_;clear hX hY X Y
      refine awp_exit ?_
      simp only [thenQ, blockQ, if_true]
      refine hK _ _ ?_;clear hK hK2 K2 K
      obtain rfl : i = l.length := by omega
      rw [List.take_length] at hx
      refine wS fun K hK => ?_
      simp only [↓DN,UP,DF,Qa,Qb,Qc,Qd,Qe,Qf,Qg,Qh,reduceCtorEq,↓reduceIte,Na,Nb,Nc,Nk,Nf,Ng,Nh,Za,Zb,Zc,TT, g3]
      refine hK _ _ ?_;clear hK K
      refine awp_ret ?_
      try simp only [thenQ, blockQ]
      simp only [retQ, AEnds, aresL, ares, List.toList_toArray, ↓upd_same]; try simp only [UP,DF,Nc,↓reduceIte,DT]
      exact ⟨_, _, hx.weak, hle, rfl, rfl⟩

end Go.Proofs.YtoagkleecgngdaaGreatDoor


set_option autoImplicit false
namespace Go.Proofs.YtoagkleecgngdaaGreatDoor
open Go Go.AM Go.Proofs


variable {Γ : Nat → List AV}

def stZ : List AV := [.v (.slice none 0 0), .v (.int .i64 0), .v (.slice none 0 0), .v (.slice none 0 0), .v (.slice none 0 0)]

/-! ### A commit's record ahead of any state -/
set_option maxHeartbeats 1000000 in
theorem stepNil_calls (R : Rec) (hk : R.kind ≠ 1) (s : AS) : ACalls Tryz.prog Γ 89 [.v (.pointer none), .agg R.cells] s (fun r s' => r = .tup [.agg stZ, .v (.int .i64 41)] ∧ s' = s) := by
  refine acalls_body Tryz.func89 rfl Tryz.ntmps89 Tryz.results89 (by simp) ?_
  unfold Rec.cells
  obtain ⟨k, g, e, t, u, y, tr, sc, wr⟩ := R
  simp only at hk
  refine wS fun K hK => ?_
  simp only [↓DN,UP,DF,Qa,Qb,Qc,Qd,Qe,Qf,Qg,Qh,reduceCtorEq,↓reduceIte,Na,Nb,Nc,Nk,Nf,Ng,Nh,Za,Zb,Zc,TT]
  intro o1 ho1 o4 ho4
  have h41 : o4 ≠ o1 := by
    rintro rfl
    simp [AS.set] at ho4
  have h14 := h41.symm
  have h40 : s.objs o4 = none := by simpa [AS.set, upd, h41] using ho4
  refine hK _ _ ?_;clear hK K
  refine wK fun K hK => ?_
  refine wS fun K hK => ?_
  simp only [↓DN,UP,DF,Qa,Qb,Qc,Qd,Qe,Qf,Qg,Qh,reduceCtorEq,↓reduceIte,Na,Nb,Nc,Nk,Nf,Ng,Nh,Za,Zb,Zc,TT, h41, h14, notI hk]
  refine hK _ _ ?_;clear hK K
  refine wC fun X Y hX hY => ?_
  simp only [↓DN,UP,DF,Qa,Qb,Qc,Qd,Qe,Qf,Qg,Qh,reduceCtorEq,↓reduceIte,Na,Nb,Nc,Nk,Nf,Ng,Nh,Za,Zb,Zc,TT, DB]
  refine hY ?_;clear hX hY X Y
  refine awp_skip ?_
  refine hK _ _ ?_;clear hK K
  refine wK fun K hK => ?_
  refine wS fun K hK => ?_
  simp only [↓DN,UP,DF,Qa,Qb,Qc,Qd,Qe,Qf,Qg,Qh,reduceCtorEq,↓reduceIte,Na,Nb,Nc,Nk,Nf,Ng,Nh,Za,Zb,Zc,TT, h41, h14]
  refine hK _ _ ?_;clear hK K
  refine wC fun X Y hX hY => ?_
  simp only [↓DN,UP,DF,Qa,Qb,Qc,Qd,Qe,Qf,Qg,Qh,reduceCtorEq,↓reduceIte,Na,Nb,Nc,Nk,Nf,Ng,Nh,Za,Zb,Zc,TT, DB]
  refine hX ?_;clear hX hY X Y
  refine wS fun K hK => ?_
  simp only [↓DN,UP,DF,Qa,Qb,Qc,Qd,Qe,Qf,Qg,Qh,reduceCtorEq,↓reduceIte,Na,Nb,Nc,Nk,Nf,Ng,Nh,Za,Zb,Zc,TT, h41, h14]
  refine hK _ _ ?_;clear hK K
  refine awp_ret ?_
  refine aends_cell_tmp (o := o4) (off := 0) (by simp only [upd, Nc, ↓reduceIte]) (AS.set_objs_same _ _ _) (by rw [T.c25]; decide) (by simp only [↓DN,UP,DF,Qa,Qb,Qc,Qd,Qe,Qf,Qg,Qh,reduceCtorEq,↓reduceIte,Na,Nb,Nc,Nk,Nf,Ng,Nh,Za,Zb,Zc,TT]; rfl) ?_
  exact ⟨_, s, AV.weak.refl _, AS.le_set (AS.le_set (AS.le.refl s) ho1 _) h40 _, rfl, rfl⟩

set_option maxHeartbeats 2000000 in
theorem replayOne_calls (R : Rec) (hR : R.right) (hk : R.kind = 2) (hl : R.text.length ≤ 2 ^ 44) (s : AS) : ACalls Tryz.prog Γ 34 [textsV [R.text], bytesV R.group .any] s (fun r s' => r = .tup [.v (.slice none 0 0), .v (.int .i64 0), .v (.int .i64 41)] ∧ s' = s) := by
  have hrd := fun s => recRead_calls (Γ := Γ) R.text hl s
  rw [recRead_text R hR] at hrd
  have hst := fun s => stepNil_calls (Γ := Γ) R (by omega) s
  have hbe := fun s => bytesEqual_calls (Γ := Γ) R.group R.group s
  rw [decide_eq_true rfl] at hbe
  refine acalls_body Tryz.func34 rfl Tryz.ntmps34 Tryz.results34 (by simp) ?_
  generalize R.text = TX at *
  unfold textsV
  unfold Rec.cells at *
  obtain ⟨k, g, e, t, u, y, tr, sc, wr⟩ := R
  simp only at hk hrd hst hbe ⊢
  subst hk
  unfold bytesV at *
  unfold stZ at *
  refine wS fun K hK => ?_
  simp only [↓DN,UP,DF,Qa,Qb,Qc,Qd,Qe,Qf,Qg,Qh,reduceCtorEq,↓reduceIte,Na,Nb,Nc,Nk,Nf,Ng,Nh,Za,Zb,Zc,TT]
  refine hK _ _ ?_;clear hK K
  refine wS fun K hK => ?_
  simp only [↓DN,UP,DF,Qa,Qb,Qc,Qd,Qe,Qf,Qg,Qh,reduceCtorEq,↓reduceIte,Na,Nb,Nc,Nk,Nf,Ng,Nh,Za,Zb,Zc,TT]
  refine hK _ _ ?_;clear hK K
  refine wS fun K hK => ?_
  simp only [↓DN,UP,DF,Qa,Qb,Qc,Qd,Qe,Qf,Qg,Qh,reduceCtorEq,↓reduceIte,Na,Nb,Nc,Nk,Nf,Ng,Nh,Za,Zb,Zc,TT]
  refine hK _ _ ?_;clear hK K
  refine wK fun K hK => ?_
  refine wS fun K hK => ?_
  simp only [↓DN,UP,DF,Qa,Qb,Qc,Qd,Qe,Qf,Qg,Qh,reduceCtorEq,↓reduceIte,Na,Nb,Nc,Nk,Nf,Ng,Nh,Za,Zb,Zc,TT]
  refine hK _ _ ?_;clear hK K
  refine awp_block ?_
  refine awp_loop (fun E s2 => E 16 = .v (.int .i64 0) ∧ E 15 = .v (.int .i64 1) ∧ E 14 = .sl 1 1 [.sl 1 TX.length (TX.map byteV) .any] .any ∧ E 7 = .v (.slice none 0 0) ∧ E 8 = .v (.pointer none) ∧ E 1 = .sl 1 g.length (g.map byteV) .any ∧ s2 = s)
    (fun E _ => 0) ?_ ?_
  · refine ⟨by simp only [upd, Nc, ↓reduceIte], by simp only [upd, Nc, ↓reduceIte]; rfl, by simp only [upd, Nc, ↓reduceIte], by simp only [upd, Nc, ↓reduceIte], by simp only [upd, Nc, ↓reduceIte], by simp only [upd, initE, List.getD_cons_zero, List.getD_cons_succ, Nc, ↓reduceIte], rfl⟩
  · rintro E1 s4 ⟨g16, g15, g14, g7, g8, g1, rfl⟩ -
    refine wS fun K hK => ?_
    simp only [↓DN,UP,DF,Qa,Qb,Qc,Qd,Qe,Qf,Qg,Qh,reduceCtorEq,↓reduceIte,Na,Nb,Nc,Nk,Nf,Ng,Nh,Za,Zb,Zc,TT, g16, g15, show decide ((0 : Int) < 1) = true from rfl]
    refine hK _ _ ?_;clear hK K
    refine wK fun K2 hK2 => ?_
    refine wC fun X Y hX hY => ?_
    simp only [↓DN,UP,DF,Qa,Qb,Qc,Qd,Qe,Qf,Qg,Qh,reduceCtorEq,↓reduceIte,Na,Nb,Nc,Nk,Nf,Ng,Nh,Za,Zb,Zc,TT, DB]
    refine hX ?_;clear hX hY X Y
    refine awp_skip ?_
    refine hK2 _ _ ?_;clear hK2 K2
    refine wK fun K3 hK3 => ?_
    refine awp_block ?_
    refine wS fun K hK => ?_
    simp only [↓DN,UP,DF,Qa,Qb,Qc,Qd,Qe,Qf,Qg,Qh,reduceCtorEq,↓reduceIte,Na,Nb,Nc,Nk,Nf,Ng,Nh,Za,Zb,Zc,TT, g14, g16]
    refine hK _ _ ?_;clear hK K
    refine wS fun K hK => ?_
    simp only [↓DN,UP,DF,Qa,Qb,Qc,Qd,Qe,Qf,Qg,Qh,reduceCtorEq,↓reduceIte,Na,Nb,Nc,Nk,Nf,Ng,Nh,Za,Zb,Zc,TT]
    refine acallk (hrd _) ?_
    rintro r s5 ⟨rfl, rfl⟩
    simp only [↓AXq_nil,↓AXq_cons,pval,DX,Nat.reduceBEq,↓DN,UP,DF,Qa,Qb,Qc,Qd,Qe,Qf,Qg,Qh,reduceCtorEq,↓reduceIte,Na,Nb,Nc,Nk,Nf,Ng,Nh,Za,Zb,Zc,TT]
    intro o11 h11
    refine hK _ _ ?_;clear hK K
    refine wK fun K hK => ?_
    refine wS fun K hK => ?_
    simp only [↓DN,UP,DF,Qa,Qb,Qc,Qd,Qe,Qf,Qg,Qh,reduceCtorEq,↓reduceIte,Na,Nb,Nc,Nk,Nf,Ng,Nh,Za,Zb,Zc,TT, show ((0 : Int) != 0) = false from rfl]
    refine hK _ _ ?_;clear hK K
    refine wC fun X Y hX hY => ?_
    simp only [↓DN,UP,DF,Qa,Qb,Qc,Qd,Qe,Qf,Qg,Qh,reduceCtorEq,↓reduceIte,Na,Nb,Nc,Nk,Nf,Ng,Nh,Za,Zb,Zc,TT, DB]
    refine hY ?_;clear hX hY X Y
    refine awp_skip ?_
    refine hK _ _ ?_;clear hK K
    refine wK fun K hK => ?_
    refine wS fun K hK => ?_
    simp only [↓DN,UP,DF,Qa,Qb,Qc,Qd,Qe,Qf,Qg,Qh,reduceCtorEq,↓reduceIte,Na,Nb,Nc,Nk,Nf,Ng,Nh,Za,Zb,Zc,TT, g1, show ((2 : Int) == 3) = false from rfl]
    refine acallk (hbe _) ?_
    rintro r s6 ⟨rfl, rfl⟩
    simp only [↓AXq_nil,↓AXq_cons,pval,DX,Nat.reduceBEq,↓DN,UP,DF,Qa,Qb,Qc,Qd,Qe,Qf,Qg,Qh,reduceCtorEq,↓reduceIte,Na,Nb,Nc,Nk,Nf,Ng,Nh,Za,Zb,Zc,TT]
    refine hK _ _ ?_;clear hK K
    refine wC fun X Y hX hY => ?_
    simp only [↓DN,UP,DF,Qa,Qb,Qc,Qd,Qe,Qf,Qg,Qh,reduceCtorEq,↓reduceIte,Na,Nb,Nc,Nk,Nf,Ng,Nh,Za,Zb,Zc,TT, DB]
    refine hY ?_;clear hX hY X Y
    refine awp_skip ?_
    refine hK _ _ ?_;clear hK K
    refine wS fun K hK => ?_
    simp only [↓DN,UP,DF,Qa,Qb,Qc,Qd,Qe,Qf,Qg,Qh,reduceCtorEq,↓reduceIte,Na,Nb,Nc,Nk,Nf,Ng,Nh,Za,Zb,Zc,TT, g8]
    refine acallk (hst _) ?_
    rintro r s7 ⟨rfl, rfl⟩
    simp only [↓AXq_nil,↓AXq_cons,pval,DX,Nat.reduceBEq,↓DN,UP,DF,Qa,Qb,Qc,Qd,Qe,Qf,Qg,Qh,reduceCtorEq,↓reduceIte,Na,Nb,Nc,Nk,Nf,Ng,Nh,Za,Zb,Zc,TT]
    intro o13 h13
    refine hK _ _ ?_;clear hK K
    have hn : o11 ≠ o13 := by
      rintro rfl
      simp [AS.set] at h13
    have h13s : s5.objs o13 = none := by simpa [AS.set, upd, hn.symm] using h13
    refine wK fun K hK => ?_
    refine wS fun K hK => ?_
    simp only [↓DN,UP,DF,Qa,Qb,Qc,Qd,Qe,Qf,Qg,Qh,reduceCtorEq,↓reduceIte,Na,Nb,Nc,Nk,Nf,Ng,Nh,Za,Zb,Zc,TT, show ((41 : Int) == 0) = false from rfl]
    refine hK _ _ ?_;clear hK K
    refine wC fun X Y hX hY => ?_
    simp only [↓DN,UP,DF,Qa,Qb,Qc,Qd,Qe,Qf,Qg,Qh,reduceCtorEq,↓reduceIte,Na,Nb,Nc,Nk,Nf,Ng,Nh,Za,Zb,Zc,TT, DB]
    refine hY ?_;clear hX hY X Y
    refine awp_skip ?_
    refine hK _ _ ?_;clear hK K
    refine wK fun K hK => ?_
    refine wS fun K hK => ?_
    simp only [↓DN,UP,DF,Qa,Qb,Qc,Qd,Qe,Qf,Qg,Qh,reduceCtorEq,↓reduceIte,Na,Nb,Nc,Nk,Nf,Ng,Nh,Za,Zb,Zc,TT, show ((41 : Int) != 0) = true from rfl]
    refine hK _ _ ?_;clear hK K
    refine wC fun X Y hX hY => ?_
    simp only [↓DN,UP,DF,Qa,Qb,Qc,Qd,Qe,Qf,Qg,Qh,reduceCtorEq,↓reduceIte,Na,Nb,Nc,Nk,Nf,Ng,Nh,Za,Zb,Zc,TT, DB]
    refine hX ?_;clear hX hY X Y
    refine wS fun K hK => ?_
    simp only [↓DN,UP,DF,Qa,Qb,Qc,Qd,Qe,Qf,Qg,Qh,reduceCtorEq,↓reduceIte,Na,Nb,Nc,Nk,Nf,Ng,Nh,Za,Zb,Zc,TT, g7, g16]
    refine hK _ _ ?_;clear hK K
    refine awp_ret ?_
    try simp only [thenQ, blockQ]
    simp only [retQ, AEnds, aresL, ares, List.toList_toArray, ↓upd_same]; try simp only [UP,DF,Nc,↓reduceIte,DT]
    exact ⟨_, s5, AV.weak.refl _, AS.le_set (AS.le_set (AS.le.refl _) h11 _) h13s _, rfl, rfl⟩

theorem rep1 (x : AV) : List.replicate 1 x = [x] := rfl

set_option maxRecDepth 100000 in
set_option maxHeartbeats 2000000 in
theorem awake30_calls (s : AS) : ACalls Tryz.prog Γ 32 [] s (fun r s' => r = .v (.bool true) ∧ s' = s) := by
  refine acalls_body Tryz.func32 rfl Tryz.ntmps32 Tryz.results32 (by simp) ?_
  have hw0 : ACalls Tryz.prog Γ0 87 [.agg r30.cells] s0 (fun r _ => r = .v (.string ⟨r30.text.toArray⟩)) := (refRecWrite_calls (Γ := Γ0) r30 r30_right s0).mono fun r s' h => h.1
  have hl : r30.text.length ≤ 2 ^ 44 := by decide +kernel
  have hre := fun s => replayOne_calls (Γ := Γ) r30 r30_right rfl hl s
  generalize r30.text = TX at *
  have hc : r30.cells = [.v (.int .i64 2), .sl 1 1 [byteV 103] .any, .v (.int .i64 0), .v (.int .i64 0), .v (.int .i64 0), .sl 1 0 [] .any, .sl 1 32 (List.replicate 32 (.v (.int .u8 0))) .any, .sl 1 32 (List.replicate 32 (.v (.int .u8 0))) .any, .sl 1 48 (List.replicate 48 (.v (.int .u8 0))) .any] := by
    simp only [Rec.cells, r30, bytesV, List.length_replicate, List.map_replicate, List.length_cons, List.length_nil, List.map_cons, List.map_nil]
    rfl
  rw [hc] at hw0
  clear hc
  have hg : bytesV r30.group .any = .sl 1 1 [byteV 103] .any := rfl
  rw [hg] at hre
  clear hg
  refine wS fun K hK => ?_
  simp only [↓DN,UP,DF,Qa,Qb,Qc,Qd,Qe,Qf,Qg,Qh,reduceCtorEq,↓reduceIte,Na,Nb,Nc,Nk,Nf,Ng,Nh,Za,Zb,Zc,TT]
  refine hK _ _ ?_;clear hK K
  refine awp_drf_frz T.mixed 1 [2, 3, 4, 6, 7] [] [] [2, 3, 4, 6] (by kernel_rfl) (by decide) ?_
  intro K hK
  simp only [↓AXz_nil, ↓AXz_cons, ↓AGiv_call, glook_nil, glook_cons, glookN_nil, glookN_cons, noughtV, pval, DX, Nat.reduceBEq, List.toList_toArray, List.map_cons, List.map_nil, aeval, ↓DN,UP,DF,Qa,Qb,Qc,Qd,Qe,Qf,Qg,Qh,reduceCtorEq,↓reduceIte,Na,Nb,Nc,Nk,Nf,Ng,Nh,Za,Zb,Zc,TT, rep1]
  refine ⟨by decide, by decide, ?_⟩
  intro o ho
  refine ⟨by decide, by decide, ?_⟩
  intro o1 ho1
  have n1 : o1 ≠ o := by rintro rfl; simp at ho1
  refine ⟨by decide, by decide, ?_⟩
  intro o2 ho2
  have n21 : o2 ≠ o1 := by rintro rfl; simp at ho2
  have n2 : o2 ≠ o := by rintro rfl; simp [n1.symm] at ho2
  intro o3 ho3
  have n32 : o3 ≠ o2 := by rintro rfl; simp at ho3
  have n31 : o3 ≠ o1 := by rintro rfl; simp [n21.symm] at ho3
  have n3 : o3 ≠ o := by rintro rfl; simp [n1.symm, n2.symm] at ho3
  have h1 : s.objs o1 = none := by simpa [n1] using ho1
  have h2 : s.objs o2 = none := by simpa [n21, n2] using ho2
  refine hK _ _ o3 _ (by simp only [upd, Nc, ↓reduceIte]) (by rw [AS.set_objs_ne _ n32, AS.set_objs_ne _ n31, AS.set_objs_ne _ n3]; simpa [n32, n31, n3] using ho3) ?_
  clear hK K
  have hle : s.le (((s.set o (List.replicate 32 (.v (.int .u8 0)))).set o1 (List.replicate 32 (.v (.int .u8 0)))).set o2 (List.replicate 48 (.v (.int .u8 0)))) := AS.le_set (AS.le_set (AS.le_set (AS.le.refl s) ho _) h1 _) h2 _
  have q0 : (((s.set o (List.replicate 32 (.v (.int .u8 0)))).set o1 (List.replicate 32 (.v (.int .u8 0)))).set o2 (List.replicate 48 (.v (.int .u8 0)))).objs o = some (List.replicate 32 (.v (.int .u8 0))) := by rw [AS.set_objs_ne _ n2.symm, AS.set_objs_ne _ n1.symm, AS.set_objs_same]
  have q1 : (((s.set o (List.replicate 32 (.v (.int .u8 0)))).set o1 (List.replicate 32 (.v (.int .u8 0)))).set o2 (List.replicate 48 (.v (.int .u8 0)))).objs o1 = some (List.replicate 32 (.v (.int .u8 0))) := by rw [AS.set_objs_ne _ n21.symm, AS.set_objs_same]
  have q2 : (((s.set o (List.replicate 32 (.v (.int .u8 0)))).set o1 (List.replicate 32 (.v (.int .u8 0)))).set o2 (List.replicate 48 (.v (.int .u8 0)))).objs o2 = some (List.replicate 48 (.v (.int .u8 0))) := AS.set_objs_same _ _ _
  generalize ((s.set o (List.replicate 32 (.v (.int .u8 0)))).set o1 (List.replicate 32 (.v (.int .u8 0)))).set o2 (List.replicate 48 (.v (.int .u8 0))) = s3 at *
  have fl : ∀ n, ∀ c ∈ List.replicate n (AV.v (.int .u8 0)), ∃ x, c = .v x := fun n c hc => ⟨_, List.eq_of_mem_replicate hc⟩
  have hv := ACalls.view (s := s3) (Γ := Γ) (args' := [.agg [.v (.int .i64 2), .sl 1 1 [byteV 103] .any, .v (.int .i64 0), .v (.int .i64 0), .v (.int .i64 0), .v (.slice none 0 0), .osl o 0 1 32 32, .osl o1 0 1 32 32, .osl o2 0 1 48 48]]) hw0 (.cons (View.agg (.cons View.val (.cons (View.sl (cs := [byteV 103]) (fun c hc => ⟨_, List.mem_singleton.1 hc⟩)) (.cons View.val (.cons View.val (.cons View.val (.cons View.nilZ (.cons (View.osl q0 (by simp) (fl 32)) (.cons (View.osl q1 (by simp) (fl 32)) (.cons (View.osl q2 (by simp) (fl 48)) .nil)))))))))) .nil)
  refine wS fun K hK => ?_
  simp only [↓DN,UP,DF,Qa,Qb,Qc,Qd,Qe,Qf,Qg,Qh,reduceCtorEq,↓reduceIte,Na,Nb,Nc,Nk,Nf,Ng,Nh,Za,Zb,Zc,TT]
  refine acallk (ACalls.weaks (.cons (AV.weak_agg (.cons (AV.weak.refl _) (.cons AV.weak_any (AVs.weak.refl _)))) .nil) hv) ?_
  rintro r s4 ⟨rfl, rfl⟩
  simp only [↓AXq_nil, ↓AXq_cons, pval, ↓AXz_nil, ↓AXz_cons, ↓AGiv_call, glook_nil, glook_cons, glookN_nil, glookN_cons, noughtV, pval, DX, Nat.reduceBEq, List.toList_toArray, List.map_cons, List.map_nil, aeval, DX, Nat.reduceBEq, ↓DN,UP,DF,Qa,Qb,Qc,Qd,Qe,Qf,Qg,Qh,reduceCtorEq,↓reduceIte,Na,Nb,Nc,Nk,Nf,Ng,Nh,Za,Zb,Zc,TT, rep1]
  refine acallk (ACalls.weaks (.cons (fun G v h => AV.weak_any G v (AV.weak_slc (.cons AV.weak_any .nil) G v h)) (.cons AV.weak_any .nil)) (hre _)) ?_
  rintro r s5 ⟨rfl, rfl⟩
  simp only [↓AXq_nil, ↓AXq_cons, pval, ↓AXz_nil, ↓AXz_cons, ↓AGiv_call, glook_nil, glook_cons, glookN_nil, glookN_cons, noughtV, pval, DX, Nat.reduceBEq, List.toList_toArray, List.map_cons, List.map_nil, aeval, DX, Nat.reduceBEq, ↓DN,UP,DF,Qa,Qb,Qc,Qd,Qe,Qf,Qg,Qh,reduceCtorEq,↓reduceIte,Na,Nb,Nc,Nk,Nf,Ng,Nh,Za,Zb,Zc,TT]
  refine hK _ _ ?_;clear hK K
  refine wS fun K hK => ?_
  simp only [↓DN,UP,DF,Qa,Qb,Qc,Qd,Qe,Qf,Qg,Qh,reduceCtorEq,↓reduceIte,Na,Nb,Nc,Nk,Nf,Ng,Nh,Za,Zb,Zc,TT, show ((0 : Int) == 0) = true from rfl, show ((41 : Int) == 41) = true from rfl, show (((0 : Nat) : Int) == 0) = true from rfl]
  refine hK _ _ ?_;clear hK K
  refine awp_ret ?_
  try simp only [thenQ, blockQ]
  simp only [retQ, AEnds, aresL, ares, List.toList_toArray, ↓upd_same]; try simp only [UP,DF,Nc,↓reduceIte,DT]
  exact ⟨_, s, AV.weak.refl _, hle, rfl, rfl⟩

end Go.Proofs.YtoagkleecgngdaaGreatDoor


set_option autoImplicit false
namespace Go.Proofs.YtoagkleecgngdaaGreatDoor
open Go Go.AM Go.Proofs


variable {Γ : Nat → List AV}

/-- A word. -/
abbrev wV (x : Nat) : AV := .v (.int .u32 (x : Int))

theorem neg_i64 (a : Nat) (h : a < 32) : ineg .i64 (a : Int) = -(a : Int) := by
  rw [ineg, IntWalk.i64_in _ (by omega)]
  omega
theorem rot_count (a : Nat) (h0 : 0 < a) (h : a < 32) : iand .u64 (iconv .u64 (-(a : Int))) 31 = ((32 - a : Nat) : Int) := by
  have e : iconv .u64 (-(a : Int)) = ((18446744073709551616 - a : Nat) : Int) := by
    rw [iconv, wrap_u rfl]
    simp only [IntKind.bits]
    omega
  rw [e, show (31 : Int) = ((31 : Nat) : Int) from rfl, iand_u rfl _ _ (by simp only [IntKind.bits]; omega) (by decide)]
  congr 1
  have : (18446744073709551616 - a) &&& 31 = (18446744073709551616 - a) % 2 ^ 5 := Nat.and_two_pow_sub_one_eq_mod _ 5
  rw [this]
  omega

theorem nat_not_neg (a : Nat) : ¬ ((a : Nat) : Int) < 0 := by omega
theorem rot_sub (a : Nat) (h0 : 0 < a) (h : a < 32) : isub .u64 32 ((32 - a : Nat) : Int) = ((a : Nat) : Int) := by
  have := isub_u_le (k := .u64) rfl 32 (32 - a) (by omega) (by decide)
  rw [show (32 : Int) = ((32 : Nat) : Int) from rfl, this]
  congr 1
  omega
theorem rot_val (x a : Nat) (hx : x < 4294967296) (h0 : 0 < a) (h : a < 32) : ior .u32 (ishl .u32 (x : Int) ((32 - a : Nat) : Int)) (ishr .u32 (x : Int) ((a : Nat) : Int)) = ((Sha.rotr x a : Nat) : Int) := by
  rw [ishl_u rfl, ishr_u]
  rw [ior_u rfl _ _ (Nat.mod_lt _ (by decide)) (by simp only [IntKind.bits]; exact Nat.lt_of_le_of_lt (Nat.div_le_self _ _) hx)]
  rw [Sha.rotr, Nat.or_comm]
  simp only [IntKind.bits]
  rw [Nat.min_eq_left (by omega), Nat.min_eq_left (by omega)]
theorem wxor (a b : Nat) (ha : a < 4294967296) (hb : b < 4294967296) : ixor .u32 (a : Int) (b : Int) = ((a ^^^ b : Nat) : Int) := ixor_u rfl a b ha hb
theorem wand (a b : Nat) (ha : a < 4294967296) (hb : b < 4294967296) : iand .u32 (a : Int) (b : Int) = ((a &&& b : Nat) : Int) := iand_u rfl a b ha hb
theorem wor (a b : Nat) (ha : a < 4294967296) (hb : b < 4294967296) : ior .u32 (a : Int) (b : Int) = ((a ||| b : Nat) : Int) := ior_u rfl a b ha hb
theorem wadd (a b : Nat) : iadd .u32 (a : Int) (b : Int) = ((Sha.add32 a b : Nat) : Int) := iadd_u rfl a b
theorem wnot (a : Nat) (ha : a < 4294967296) : inot .u32 (a : Int) = ((4294967295 - a : Nat) : Int) := inot_u rfl a ha
theorem wshr (a c : Nat) (hc : c < 32) : ishr .u32 (a : Int) ((c : Nat) : Int) = ((a / 2 ^ c : Nat) : Int) := by
  rw [ishr_u]
  simp only [IntKind.bits]
  rw [Nat.min_eq_left (by omega)]
theorem wshl (a c : Nat) (hc : c < 32) : ishl .u32 (a : Int) ((c : Nat) : Int) = (((a * 2 ^ c) % 4294967296 : Nat) : Int) := by
  rw [ishl_u rfl]
  simp only [IntKind.bits]
  rw [Nat.min_eq_left (by omega)]

set_option maxHeartbeats 1000000 in
theorem rotl_calls (x a : Nat) (hx : x < 4294967296) (h0 : 0 < a) (h : a < 32) (s : AS) :
    ACalls Tryz.prog Γ 254 [wV x, .v (.int .i64 (-(a : Int)))] s (fun r s' => r = wV (Sha.rotr x a) ∧ s' = s) := by
  refine acalls_body Tryz.func254 rfl Tryz.ntmps254 Tryz.results254 (by simp) ?_
  refine wS fun K hK => ?_
  simp only [↓DN,UP,DF,Qa,Qb,Qc,Qd,Qe,Qf,Qg,Qh,reduceCtorEq,↓reduceIte,Na,Nb,Nc,Nk,Nf,Ng,Nh,Za,Zb,Zc,TT]
  refine hK _ _ ?_;clear hK K
  refine wS fun K hK => ?_
  simp only [↓DN,UP,DF,Qa,Qb,Qc,Qd,Qe,Qf,Qg,Qh,reduceCtorEq,↓reduceIte,Na,Nb,Nc,Nk,Nf,Ng,Nh,Za,Zb,Zc,TT, rot_count a h0 h]
  refine hK _ _ ?_;clear hK K
  refine wS fun K hK => ?_
  simp only [↓DN,UP,DF,Qa,Qb,Qc,Qd,Qe,Qf,Qg,Qh,reduceCtorEq,↓reduceIte,Na,Nb,Nc,Nk,Nf,Ng,Nh,Za,Zb,Zc,TT, nat_not_neg, rot_sub a h0 h, rot_val x a hx h0 h]
  refine hK _ _ ?_;clear hK K
  refine awp_ret ?_
  simp only [retQ, AEnds, aresL, ares, List.toList_toArray, ↓upd_same]; try simp only [UP,DF,Nc,↓reduceIte,DT]
  exact ⟨_, s, AV.weak.refl _, AS.le.refl s, rfl, rfl⟩

set_option maxHeartbeats 1000000 in
theorem turned_calls (x a b c : Nat) (hx : x < 4294967296) (ha0 : 0 < a) (ha : a < 32) (hb0 : 0 < b) (hb : b < 32) (hc0 : 0 < c) (hc : c < 32) (s : AS) :
    ACalls Tryz.prog Γ 208 [wV x, .v (.int .i64 (a : Int)), .v (.int .i64 (b : Int)), .v (.int .i64 (c : Int))] s (fun r s' => r = wV (Sha.sig3 x a b c) ∧ s' = s) := by
  refine acalls_body Tryz.func208 rfl Tryz.ntmps208 Tryz.results208 (by simp) ?_
  refine wS fun K hK => ?_
  simp only [↓DN,UP,DF,Qa,Qb,Qc,Qd,Qe,Qf,Qg,Qh,reduceCtorEq,↓reduceIte,Na,Nb,Nc,Nk,Nf,Ng,Nh,Za,Zb,Zc,TT]
  refine hK _ _ ?_;clear hK K
  refine wS fun K hK => ?_
  simp only [↓DN,UP,DF,Qa,Qb,Qc,Qd,Qe,Qf,Qg,Qh,reduceCtorEq,↓reduceIte,Na,Nb,Nc,Nk,Nf,Ng,Nh,Za,Zb,Zc,TT, neg_i64 a ha]
  refine acallk (rotl_calls x a hx ha0 ha _) ?_
  rintro r s1 ⟨rfl, rfl⟩
  simp only [↓AXq_nil,↓AXq_cons,pval,DX,Nat.reduceBEq,↓DN,UP,DF,Qa,Qb,Qc,Qd,Qe,Qf,Qg,Qh,reduceCtorEq,↓reduceIte,Na,Nb,Nc,Nk,Nf,Ng,Nh,Za,Zb,Zc,TT, neg_i64 b hb]
  refine acallk (rotl_calls x b hx hb0 hb _) ?_
  rintro r s2 ⟨rfl, rfl⟩
  simp only [↓AXq_nil,↓AXq_cons,pval,DX,Nat.reduceBEq,↓DN,UP,DF,Qa,Qb,Qc,Qd,Qe,Qf,Qg,Qh,reduceCtorEq,↓reduceIte,Na,Nb,Nc,Nk,Nf,Ng,Nh,Za,Zb,Zc,TT, neg_i64 c hc, wxor _ _ (Sha.rotr_lt a hx) (Sha.rotr_lt b hx)]
  refine acallk (rotl_calls x c hx hc0 hc _) ?_
  rintro r s3 ⟨rfl, rfl⟩
  simp only [↓AXq_nil,↓AXq_cons,pval,DX,Nat.reduceBEq,↓DN,UP,DF,Qa,Qb,Qc,Qd,Qe,Qf,Qg,Qh,reduceCtorEq,↓reduceIte,Na,Nb,Nc,Nk,Nf,Ng,Nh,Za,Zb,Zc,TT, wxor _ _ (Nat.xor_lt_two_pow (n := 32) (Sha.rotr_lt a hx) (Sha.rotr_lt b hx)) (Sha.rotr_lt c hx)]
  refine hK _ _ ?_;clear hK K
  refine awp_ret ?_
  simp only [retQ, AEnds, aresL, ares, List.toList_toArray, ↓upd_same]; try simp only [UP,DF,Nc,↓reduceIte,DT]
  exact ⟨_, _, AV.weak.refl _, AS.le.refl _, rfl, rfl⟩

set_option maxHeartbeats 1000000 in
theorem shifted_calls (x a b c : Nat) (hx : x < 4294967296) (ha0 : 0 < a) (ha : a < 32) (hb0 : 0 < b) (hb : b < 32) (hc0 : 0 < c) (hc : c < 32) (s : AS) :
    ACalls Tryz.prog Γ 253 [wV x, .v (.int .i64 (a : Int)), .v (.int .i64 (b : Int)), .v (.int .i64 (c : Int))] s (fun r s' => r = wV (Sha.sig2 x a b c) ∧ s' = s) := by
  refine acalls_body Tryz.func253 rfl Tryz.ntmps253 Tryz.results253 (by simp) ?_
  refine wS fun K hK => ?_
  simp only [↓DN,UP,DF,Qa,Qb,Qc,Qd,Qe,Qf,Qg,Qh,reduceCtorEq,↓reduceIte,Na,Nb,Nc,Nk,Nf,Ng,Nh,Za,Zb,Zc,TT]
  refine hK _ _ ?_;clear hK K
  refine awp_drw_seq T.mixed [3, 7] (by kernel_rfl) ?_
  intro K hK
  simp only [↓AXq_nil,↓AXq_cons,pval,DX,Nat.reduceBEq,↓DN,UP,DF,Qa,Qb,Qc,Qd,Qe,Qf,Qg,Qh,reduceCtorEq,↓reduceIte,Na,Nb,Nc,Nk,Nf,Ng,Nh,Za,Zb,Zc,TT, neg_i64 a ha]
  refine acallk (rotl_calls x a hx ha0 ha _) ?_
  rintro r s1 ⟨rfl, rfl⟩
  simp only [↓AXq_nil,↓AXq_cons,pval,DX,Nat.reduceBEq,↓DN,UP,DF,Qa,Qb,Qc,Qd,Qe,Qf,Qg,Qh,reduceCtorEq,↓reduceIte,Na,Nb,Nc,Nk,Nf,Ng,Nh,Za,Zb,Zc,TT, neg_i64 b hb]
  refine acallk (rotl_calls x b hx hb0 hb _) ?_
  rintro r s2 ⟨rfl, rfl⟩
  simp only [↓AXq_nil,↓AXq_cons,pval,DX,Nat.reduceBEq,↓DN,UP,DF,Qa,Qb,Qc,Qd,Qe,Qf,Qg,Qh,reduceCtorEq,↓reduceIte,Na,Nb,Nc,Nk,Nf,Ng,Nh,Za,Zb,Zc,TT, wxor _ _ (Sha.rotr_lt a hx) (Sha.rotr_lt b hx), nat_not_neg, wshr x c hc, wxor _ _ (Nat.xor_lt_two_pow (n := 32) (Sha.rotr_lt a hx) (Sha.rotr_lt b hx)) (Nat.lt_of_le_of_lt (Nat.div_le_self x (2 ^ c)) hx)]
  refine hK _ _ ?_;clear hK K
  refine awp_ret ?_
  simp only [retQ, AEnds, aresL, ares, List.toList_toArray, ↓upd_same]; try simp only [UP,DF,Nc,↓reduceIte,DT]
  exact ⟨_, _, AV.weak.refl _, AS.le.refl _, rfl, rfl⟩

theorem right_sub (a : Nat) (h : a < 32) : isub .i64 32 ((a : Nat) : Int) = ((32 - a : Nat) : Int) := by
  rw [isub_i64 (by omega)]
  omega
theorem right_val (x a : Nat) (hx : x < 4294967296) (h0 : 0 < a) (h : a < 32) : ior .u32 (ishr .u32 (x : Int) ((a : Nat) : Int)) (ishl .u32 (x : Int) ((32 - a : Nat) : Int)) = ((Sha.rotr x a : Nat) : Int) := by
  rw [wshl x (32 - a) (by omega), wshr x a h, wor _ _ (Nat.lt_of_le_of_lt (Nat.div_le_self _ _) hx) (Nat.mod_lt _ (by decide)), Sha.rotr]

set_option maxHeartbeats 1000000 in
theorem right_calls (x a : Nat) (hx : x < 4294967296) (h0 : 0 < a) (h : a < 32) (s : AS) :
    ACalls Tryz.prog Γ 142 [wV x, .v (.int .i64 (a : Int))] s (fun r s' => r = wV (Sha.rotr x a) ∧ s' = s) := by
  refine acalls_body Tryz.func142 rfl Tryz.ntmps142 Tryz.results142 (by simp) ?_
  refine wS fun K hK => ?_
  simp only [↓DN,UP,DF,Qa,Qb,Qc,Qd,Qe,Qf,Qg,Qh,reduceCtorEq,↓reduceIte,Na,Nb,Nc,Nk,Nf,Ng,Nh,Za,Zb,Zc,TT]
  refine hK _ _ ?_;clear hK K
  refine awp_drw_seq T.mixed [] (by kernel_rfl) ?_
  intro K hK
  simp only [↓AXq_nil,↓AXq_cons,pval,DX,Nat.reduceBEq,↓DN,UP,DF,Qa,Qb,Qc,Qd,Qe,Qf,Qg,Qh,reduceCtorEq,↓reduceIte,Na,Nb,Nc,Nk,Nf,Ng,Nh,Za,Zb,Zc,TT, nat_not_neg, right_sub a h, right_val x a hx h0 h]
  refine hK _ _ ?_;clear hK K
  refine awp_ret ?_
  simp only [retQ, AEnds, aresL, ares, List.toList_toArray, ↓upd_same]; try simp only [UP,DF,Nc,↓reduceIte,DT]
  exact ⟨_, s, AV.weak.refl _, AS.le.refl s, rfl, rfl⟩

set_option maxHeartbeats 1000000 in
set_option maxRecDepth 100000 in
theorem refK_calls (s : AS) :
    ACalls Tryz.prog Γ 140 [] s (fun r s' => r = .sl 1 64 (Sha.K.map wV) .no ∧ s' = s) := by
  refine acalls_body Tryz.func140 rfl Tryz.ntmps140 Tryz.results140 (by simp) ?_
  refine wS fun K hK => ?_
  simp only [↓DN,UP,DF,Qa,Qb,Qc,Qd,Qe,Qf,Qg,Qh,reduceCtorEq,↓reduceIte,Na,Nb,Nc,Nk,Nf,Ng,Nh,Za,Zb,Zc,TT]
  refine hK _ _ ?_;clear hK K
  refine wS fun K hK => ?_
  simp only [↓DN,UP,DF,Qa,Qb,Qc,Qd,Qe,Qf,Qg,Qh,reduceCtorEq,↓reduceIte,Na,Nb,Nc,Nk,Nf,Ng,Nh,Za,Zb,Zc,TT]
  refine hK _ _ ?_;clear hK K
  refine awp_ret ?_
  simp only [retQ, AEnds, aresL, ares, List.toList_toArray, ↓upd_same]; try simp only [UP,DF,Nc,↓reduceIte,DT]
  exact ⟨_, s, AV.weak_sl rfl, AS.le.refl s, rfl, rfl⟩

end Go.Proofs.YtoagkleecgngdaaGreatDoor


set_option autoImplicit false
namespace Go.Proofs.YtoagkleecgngdaaGreatDoor
open Go Go.AM Go.Proofs


variable {Γ : Nat → List AV}

/-- A row of words that is being filled. -/
def row (c : List UInt8) (i : Nat) : List AV := (Sha.sch c i).map wV ++ List.replicate (64 - i) (wV 0)
theorem row_zero (c : List UInt8) : row c 0 = List.replicate 64 (wV 0) := rfl
theorem row_full (c : List UInt8) : row c 64 = (Sha.sch c 64).map wV := by simp [row]
theorem row_len (c : List UInt8) (i : Nat) (h : i ≤ 64) : (row c i).length = 64 := by
  simp [row, Sha.sch_length]; omega
theorem drop_cons {α : Type} (l : List α) (j : Nat) (x : α) (h : l[j]? = some x) : List.drop j l = x :: List.drop (j + 1) l := by
  obtain ⟨h1, h2⟩ := List.getElem?_eq_some_iff.1 h
  rw [List.drop_eq_getElem_cons h1, h2]
theorem row_drop (c : List UInt8) (i j : Nat) (h : j < i) : List.drop j (row c i) = wV ((Sha.sch c i).getD j 0) :: List.drop (j + 1) (row c i) := by
  apply drop_cons
  have hl : j < (Sha.sch c i).length := by rw [Sha.sch_length]; exact h
  rw [row, List.getElem?_append_left (by simpa using hl), List.getElem?_map, List.getElem?_eq_getElem hl]
  simp [List.getD, List.getElem?_eq_getElem hl]
/-- .. with a part of the next word. -/
def rowP (c : List UInt8) (i v : Nat) : List AV := (row c i).set i (wV v)
theorem rowP_zero (c : List UInt8) (i : Nat) (h : i < 64) : rowP c i 0 = row c i := by
  unfold rowP
  apply List.ext_getElem?
  intro k
  by_cases e : k = i
  · subst e
    rw [List.getElem?_set_self (by rw [row_len c k (by omega)]; exact h), row, List.getElem?_append_right (by simp [Sha.sch_length])]
    simp [Sha.sch_length, List.getElem?_replicate]
    omega
  · rw [List.getElem?_set_ne (by omega)]
theorem rowP_drop (c : List UInt8) (i v : Nat) (h : i < 64) : List.drop i (rowP c i v) = wV v :: List.drop (i + 1) (rowP c i v) := by
  apply drop_cons
  rw [rowP, List.getElem?_set_self (by rw [row_len c i (by omega)]; exact h)]
theorem rowP_set (c : List UInt8) (i v u : Nat) : (rowP c i v).set i (wV u) = rowP c i u := by simp [rowP]
theorem rowP_len (c : List UInt8) (i v : Nat) (h : i ≤ 64) : (rowP c i v).length = 64 := by simp [rowP, row_len c i h]
theorem row_set (c : List UInt8) (i : Nat) (h : i < 64) : (row c i).set i (wV (Sha.word c (Sha.sch c i) i)) = row c (i + 1) := by
  apply List.ext_getElem?
  intro k
  by_cases e : k = i
  · subst e
    rw [List.getElem?_set_self (by rw [row_len c k (by omega)]; exact h), row, List.getElem?_append_left (by simp [Sha.sch_length])]
    simp [Sha.sch, Sha.sch_length, List.getElem?_append_right]
  · rw [List.getElem?_set_ne (by omega), row, row]
    by_cases hk : k < i
    · rw [List.getElem?_append_left (by simp [Sha.sch_length]; omega), List.getElem?_append_left (by simp [Sha.sch_length]; omega)]
      simp [Sha.sch, List.getElem?_append_left, Sha.sch_length, hk]
    · rw [List.getElem?_append_right (by simp [Sha.sch_length]; omega), List.getElem?_append_right (by simp [Sha.sch_length]; omega)]
      simp only [List.length_map, Sha.sch_length, List.getElem?_replicate]
      by_cases h2 : k < 64
      · rw [if_pos (by omega), if_pos (by omega)]
      · rw [if_neg (by omega), if_neg (by omega)]
/-- The octets of a word, the first k of them. -/
def partW (c : List UInt8) (i k : Nat) : Nat := ((c.drop (4 * i)).take k).foldl (fun x b => x * 256 + b.toNat) 0
theorem partW_zero (c : List UInt8) (i : Nat) : partW c i 0 = 0 := rfl
theorem partW_succ (c : List UInt8) (i k : Nat) (b : UInt8) (h : c[4 * i + k]? = some b) : partW c i (k + 1) = partW c i k * 256 + b.toNat := by
  unfold partW
  have : (c.drop (4 * i))[k]? = some b := by rw [List.getElem?_drop]; exact h
  obtain ⟨h1, h2⟩ := List.getElem?_eq_some_iff.1 this
  rw [List.take_succ_eq_append_getElem h1, List.foldl_append, h2]
  rfl
theorem partW_lt (c : List UInt8) (i k : Nat) (hk : k ≤ 3) : partW c i k < 16777216 := by
  have key : ∀ (l : List UInt8) (x : Nat), l.foldl (fun x b => x * 256 + b.toNat) x < (x + 1) * 256 ^ l.length := by
    intro l
    induction l with
    | nil => intro x; simp
    | cons b l ih =>
      intro x
      rw [List.foldl_cons]
      have h1 := ih (x * 256 + b.toNat)
      have hb := b.toNat_lt
      have h2 : (x * 256 + b.toNat + 1) * 256 ^ l.length ≤ ((x + 1) * 256) * 256 ^ l.length := Nat.mul_le_mul_right _ (by omega)
      rw [List.length_cons, Nat.pow_succ, Nat.mul_comm (256 ^ l.length), ← Nat.mul_assoc]
      omega
  have h := key ((c.drop (4 * i)).take k) 0
  have hl : ((c.drop (4 * i)).take k).length ≤ 3 := by simp; omega
  have : 256 ^ ((c.drop (4 * i)).take k).length ≤ 256 ^ 3 := Nat.pow_le_pow_right (by decide) hl
  unfold partW
  omega
theorem partW_word (c : List UInt8) (p : List Nat) (i : Nat) (hi : i < 16) (hc : c.length = 64) : partW c i 4 = Sha.word c p i := by
  have g : ∀ j, j < 4 → c[4 * i + j]? = some (c.getD (4 * i + j) 0) := fun j hj => by
    rw [List.getD_eq_getElem?_getD, List.getElem?_eq_getElem (by omega)]
    rfl
  rw [partW_succ c i 3 _ (g 3 (by omega)), partW_succ c i 2 _ (g 2 (by omega)), partW_succ c i 1 _ (g 1 (by omega)), partW_succ c i 0 _ (g 0 (by omega)), partW_zero]
  unfold Sha.word
  rw [if_pos hi]
  simp only [Sha.be32, Nat.add_zero, Nat.zero_mul, Nat.zero_add]
theorem w_shl8 (x : Nat) (b : UInt8) (h : x < 16777216) : ior .u32 (ishl .u32 (x : Int) 8) (iconv .u32 (b.toNat : Int)) = ((x * 256 + b.toNat : Nat) : Int) := by
  have hb := b.toNat_lt
  rw [show (8 : Int) = ((8 : Nat) : Int) from rfl, wshl x 8 (by decide), iconv_u rfl]
  have e1 : x * 2 ^ 8 % 4294967296 = x * 256 := by omega
  have e2 : b.toNat % 2 ^ IntKind.u32.bits = b.toNat := by simp only [IntKind.bits]; omega
  rw [e1, e2, wor _ _ (by omega) (by omega)]
  have := Nat.shiftLeft_add_eq_or_of_lt (b := b.toNat) (i := 8) (by omega) x
  rw [Nat.shiftLeft_eq] at this
  rw [show x * 256 = x * 2 ^ 8 from rfl, ← this]

theorem asetAll_at : ∀ (xs cs : List AV) (off : Nat), off + xs.length ≤ cs.length → asetAll cs off xs = cs.take off ++ xs ++ cs.drop (off + xs.length)
  | [], cs, off, _ => by simp [asetAll]
  | x :: xs, cs, off, h => by
    simp only [List.length_cons] at h
    rw [asetAll, asetAll_at xs _ _ (by simp; omega)]
    have e1 : List.take (off + 1) (cs.set off x) = List.take off cs ++ [x] := by
      rw [List.take_succ_eq_append_getElem (by simp; omega)]
      simp [List.take_set_of_le]
    have e2 : List.drop (off + 1 + xs.length) (cs.set off x) = List.drop (off + (xs.length + 1)) cs := by
      rw [List.drop_set_of_lt (by omega), show off + 1 + xs.length = off + (xs.length + 1) from by omega]
    rw [e1, e2]
    simp
theorem asetAll_whole (cs xs : List AV) (h : cs.length = xs.length) : asetAll cs 0 xs = xs := by
  rw [asetAll_at xs cs 0 (by omega)]
  simp [← h]
theorem z138 : zcells Tryz.prog 254 = some (List.replicate 64 (wV 0)) := by kernel_rfl
theorem all_wV (l : List Nat) : (l.map wV).all AV.one = true := by
  rw [List.all_eq_true]
  intro x hx
  obtain ⟨n, _, rfl⟩ := List.mem_map.1 hx
  rfl
theorem q64 : iquo .i64 ((64 : Nat) : Int) 4 = 16 := by decide
theorem w_succ (i : Nat) (h : i < 2 ^ 62) : iadd .i64 (i : Int) 1 = ((i + 1 : Nat) : Int) := by
  rw [iadd_i64 (by omega)]
  rfl
theorem i64_mul4 (i : Nat) (h : i < 64) : imul .i64 4 (i : Int) = ((4 * i : Nat) : Int) := by
  rw [imul_i64 (by omega)]
  omega
theorem i64_add (a b : Nat) (h : a + b < 9223372036854775808) : iadd .i64 (a : Int) (b : Int) = ((a + b : Nat) : Int) := by
  rw [iadd_i64 (by omega)]
  omega
theorem i64_add4 (a : Nat) (h : a < 2 ^ 62) : iadd .i64 (a : Int) 4 = ((a + 4 : Nat) : Int) := i64_add a 4 (by omega)
theorem i64_sub (a b : Nat) (hb : b ≤ a) (h : a < 9223372036854775808) : isub .i64 (a : Int) (b : Int) = ((a - b : Nat) : Int) := by
  rw [isub_i64 (by omega)]
  omega

set_option maxHeartbeats 2000000 in
set_option maxRecDepth 100000 in
theorem spread_calls (c : List UInt8) (hc : c.length = 64) (s : AS) :
    ACalls Tryz.prog Γ 207 [bytesV c .any] s (fun r s' => r = .agg ((Sha.sch c 64).map wV) ∧ s' = s) := by
  refine acalls_body Tryz.func207 rfl Tryz.ntmps207 Tryz.results207 (by simp) ?_
  refine wS fun K hK => ?_
  simp only [↓DN,UP,DF,Qa,Qb,Qc,Qd,Qe,Qf,Qg,Qh,reduceCtorEq,↓reduceIte,Na,Nb,Nc,Nk,Nf,Ng,Nh,Za,Zb,Zc,TT, z138]
  intro o2 ho2
  refine hK _ _ ?_;clear hK K
  refine wS fun K hK => ?_
  simp only [↓DN,UP,DF,Qa,Qb,Qc,Qd,Qe,Qf,Qg,Qh,reduceCtorEq,↓reduceIte,Na,Nb,Nc,Nk,Nf,Ng,Nh,Za,Zb,Zc,TT, z138]
  intro o3 ho3
  refine hK _ _ ?_;clear hK K
  obtain ⟨h32, ho3'⟩ := AS.fresh_set ho3
  clear ho3
  rw [← row_zero c]
  refine wK fun K hK => ?_
  refine wS fun K hK => ?_
  simp only [↓DN,UP,DF,Qa,Qb,Qc,Qd,Qe,Qf,Qg,Qh,reduceCtorEq,↓reduceIte,Na,Nb,Nc,Nk,Nf,Ng,Nh,Za,Zb,Zc,TT]
  refine hK _ _ ?_;clear hK K
  refine awp_block ?_
  have hcl : (bytesV c .any : AV) = .sl 1 64 (c.map byteV) .any := by rw [bytesV, hc]
  refine awp_loop (fun E s1 => ∃ i : Nat, i ≤ 64 ∧ E 0 = .sl 1 64 (c.map byteV) .any ∧ E 2 = .ptr o2 0 ∧ E 3 = .ptr o3 0 ∧ E 7 = .v (.int .i64 i) ∧ s1 = (s.set o2 (row c 0)).set o3 (row c i))
    (fun E _ => match E 7 with | .v (.int _ i) => 64 - i.toNat | _ => 0) ?_ ?_
  · exact ⟨0, by omega, by simp [upd, initE, hc], by simp [upd], by simp [upd], by simp [upd], rfl⟩
  · rintro E1 s1 ⟨i, hi, e0, e2, e3, e7, rfl⟩ -
    by_cases hi' : i < 64
    · have hi2 : (i : Int) < 64 := by omega
      have hi3 : (i : Int) < ((64 : Nat) : Int) := by omega
      refine wS fun K hK => ?_
      simp only [↓DN,UP,DF,Qa,Qb,Qc,Qd,Qe,Qf,Qg,Qh,reduceCtorEq,↓reduceIte,Na,Nb,Nc,Nk,Nf,Ng,Nh,Za,Zb,Zc,TT, e7, decide_eq_true hi2]
      refine hK _ _ ?_;clear hK K
      refine wK fun K2 hK2 => ?_
      refine wC fun X Y hX hY => ?_
      simp only [↓DN,UP,DF,Qa,Qb,Qc,Qd,Qe,Qf,Qg,Qh,reduceCtorEq,↓reduceIte,Na,Nb,Nc,Nk,Nf,Ng,Nh,Za,Zb,Zc,TT, DB]
      refine hX ?_;clear hX hY X Y
      refine awp_skip ?_
      refine hK2 _ _ ?_;clear hK2 K2
      refine wK fun K3 hK3 => ?_
      refine awp_block ?_
      refine wS fun K hK => ?_
      simp only [↓DN,UP,DF,Qa,Qb,Qc,Qd,Qe,Qf,Qg,Qh,reduceCtorEq,↓reduceIte,Na,Nb,Nc,Nk,Nf,Ng,Nh,Za,Zb,Zc,TT, e7]
      refine hK _ _ ?_;clear hK K
      have hnext : ∀ E4 : Env, E4 0 = .sl 1 64 (c.map byteV) .any → E4 2 = .ptr o2 0 → E4 3 = .ptr o3 0 → E4 7 = .v (.int .i64 i) → K3 E4 ((s.set o2 (row c 0)).set o3 (row c (i + 1))) := by
        intro E4 f0 f2 f3 f7
        refine hK3 _ _ ?_;clear hK3 K3
        refine wE fun K hK => ?_
        simp only [↓DN,UP,DF,Qa,Qb,Qc,Qd,Qe,Qf,Qg,Qh,reduceCtorEq,↓reduceIte,Na,Nb,Nc,Nk,Nf,Ng,Nh,Za,Zb,Zc,TT, f7, w_succ i (by omega)]
        refine hK _ _ ?_;clear hK K
        refine ⟨⟨i + 1, by omega, by simp only [upd, f0, Nc, ↓reduceIte], by simp only [upd, f2, Nc, ↓reduceIte], by simp only [upd, f3, Nc, ↓reduceIte], by simp only [upd, ↓reduceIte], rfl⟩, ?_⟩
        simp only [e7, upd, ↓reduceIte]
        omega
      clear hK3
      refine wK fun K4 hK4 => ?_
      by_cases h16 : i < 16
      · have hlt16 : (i : Int) < 16 := by omega
        refine wS fun K hK => ?_
        simp only [↓DN,UP,DF,Qa,Qb,Qc,Qd,Qe,Qf,Qg,Qh,reduceCtorEq,↓reduceIte,Na,Nb,Nc,Nk,Nf,Ng,Nh,Za,Zb,Zc,TT, e0, e7, q64]
        refine hK _ _ ?_;clear hK K
        refine wC fun X Y hX hY => ?_
        simp only [↓DN,UP,DF,Qa,Qb,Qc,Qd,Qe,Qf,Qg,Qh,reduceCtorEq,↓reduceIte,Na,Nb,Nc,Nk,Nf,Ng,Nh,Za,Zb,Zc,TT, DB]
        refine ⟨fun _ => hX ?_, fun h => absurd hlt16 h⟩
        clear hX hY X Y
        have hlo : (0 : Int) ≤ ((4 * i : Nat) : Int) := by omega
        have hlh : ((4 * i : Nat) : Int) ≤ ((4 * i + 4 : Nat) : Int) := by omega
        have hh64 : ((4 * i + 4 : Nat) : Int) ≤ ((64 : Nat) : Int) := by omega
        refine wK fun K5 hK5 => ?_
        refine wS fun K hK => ?_
        simp only [↓DN,UP,DF,Qa,Qb,Qc,Qd,Qe,Qf,Qg,Qh,reduceCtorEq,↓reduceIte,Na,Nb,Nc,Nk,Nf,Ng,Nh,Za,Zb,Zc,TT, e0, e7, i64_mul4 i hi', i64_add4 (4 * i) (by omega), hlo, hlh, hh64, Nat.add_sub_cancel_left]
        refine hK _ _ ?_;clear hK K
        refine awp_block ?_
        obtain ⟨Xs, hXs⟩ : ∃ Xs, Xs = List.map byteV (List.drop (4 * i) (List.take (4 * i + 4) c)) := ⟨_, rfl⟩
        have hXk : ∀ k, k < 4 → List.take 1 (List.drop k Xs) = [byteV (c.getD (4 * i + k) 0)] := by
          intro k hk
          have : Xs[k]? = some (byteV (c.getD (4 * i + k) 0)) := by
            rw [hXs, List.getElem?_map, List.getElem?_drop, List.getElem?_take, if_pos (by omega), List.getElem?_eq_getElem (by omega)]
            simp only [Option.map_some, List.getD, List.getElem?_eq_getElem (show 4 * i + k < c.length by omega), Option.getD_some]
          rw [drop_cons _ _ _ this]
          rfl
        rw [← hXs]
        refine awp_loop (fun E s2 => ∃ k : Nat, k ≤ 4 ∧ E 0 = .sl 1 64 (c.map byteV) .any ∧ E 2 = .ptr o2 0 ∧ E 3 = .ptr o3 0 ∧ E 7 = .v (.int .i64 i) ∧ E 4 = .v (.int .i64 i) ∧ E 21 = .sl 1 4 Xs .any ∧ E 22 = .v (.int .i64 4) ∧ E 23 = .v (.int .i64 k) ∧ s2 = (s.set o2 (row c 0)).set o3 (rowP c i (partW c i k)))
          (fun E _ => match E 23 with | .v (.int _ k) => 4 - k.toNat | _ => 0) ?_ ?_
        · refine ⟨0, by omega, by simp only [upd, e0, Nc, ↓reduceIte], by simp only [upd, e2, Nc, ↓reduceIte], by simp only [upd, e3, Nc, ↓reduceIte], by simp only [upd, e7, Nc, ↓reduceIte], by simp only [upd, Nc, ↓reduceIte], by simp only [upd, Nc, ↓reduceIte], by simp only [upd, Nc, ↓reduceIte]; rfl, by simp only [upd, ↓reduceIte]; rfl, by rw [partW_zero, rowP_zero c i hi']⟩
        · rintro E2 s2 ⟨k, hk, g0, g2, g3, g7, g4, g21, g22, g23, rfl⟩ -
          by_cases hk' : k < 4
          · have hk2 : (k : Int) < 4 := by omega
            have hk0 : (0 : Int) ≤ (k : Int) := by omega
            have hk3 : (k : Int) < ((4 : Nat) : Int) := by omega
            have hi0 : (0 : Int) ≤ (i : Int) := by omega
            refine wS fun K hK => ?_
            simp only [↓DN,UP,DF,Qa,Qb,Qc,Qd,Qe,Qf,Qg,Qh,reduceCtorEq,↓reduceIte,Na,Nb,Nc,Nk,Nf,Ng,Nh,Za,Zb,Zc,TT, g23, g22, decide_eq_true hk2]
            refine hK _ _ ?_;clear hK K
            refine wK fun K6 hK6 => ?_
            refine wC fun X Y hX hY => ?_
            simp only [↓DN,UP,DF,Qa,Qb,Qc,Qd,Qe,Qf,Qg,Qh,reduceCtorEq,↓reduceIte,Na,Nb,Nc,Nk,Nf,Ng,Nh,Za,Zb,Zc,TT, DB]
            refine hX ?_;clear hX hY X Y
            refine awp_skip ?_
            refine hK6 _ _ ?_;clear hK6 K6
            refine wK fun K7 hK7 => ?_
            refine awp_block ?_
            obtain ⟨b, hb⟩ : ∃ b, b = c.getD (4 * i + k) 0 := ⟨_, rfl⟩
            have hbk : c[4 * i + k]? = some b := by
              rw [hb, List.getD_eq_getElem?_getD, List.getElem?_eq_getElem (by omega)]
              rfl
            have hXk' := hXk k hk'
            rw [← hb] at hXk'
            refine wS fun K hK => ?_
            simp only [↓DN,UP,DF,Qa,Qb,Qc,Qd,Qe,Qf,Qg,Qh,reduceCtorEq,↓reduceIte,Na,Nb,Nc,Nk,Nf,Ng,Nh,Za,Zb,Zc,TT, g21, g23, hk0, hk2, hk3, hXk']
            refine hK _ _ ?_;clear hK K
            obtain ⟨v, hv⟩ : ∃ v, v = partW c i k := ⟨_, rfl⟩
            have hv3 : v < 16777216 := by rw [hv]; exact partW_lt c i k (by omega)
            rw [← hv]
            have hd := rowP_drop c i v hi'
            have hset : (rowP c i v).set i (wV (v * 256 + b.toNat)) = rowP c i (partW c i (k + 1)) := by rw [rowP_set, partW_succ c i k b hbk, hv]
            have hlen := rowP_len c i v hi
            obtain ⟨R, hR⟩ : ∃ R, R = rowP c i v := ⟨_, rfl⟩
            rw [← hR] at hd hset hlen ⊢
            refine wE fun K hK => ?_
            simp only [↓DN,UP,DF,Qa,Qb,Qc,Qd,Qe,Qf,Qg,Qh,reduceCtorEq,↓reduceIte,Na,Nb,Nc,Nk,Nf,Ng,Nh,Za,Zb,Zc,TT, g3, g4, hi0, hi2, hi3, hd, byteV, w_shl8 v b hv3, hset, hlen, hi']
            refine ⟨by omega, hK _ _ ?_⟩
            clear hK K
            simp only [blockQ, thenQ, if_true, if_false]
            refine hK7 _ _ ?_;clear hK7 K7
            refine wE fun K hK => ?_
            simp only [↓DN,UP,DF,Qa,Qb,Qc,Qd,Qe,Qf,Qg,Qh,reduceCtorEq,↓reduceIte,Na,Nb,Nc,Nk,Nf,Ng,Nh,Za,Zb,Zc,TT, g23, w_succ k (by omega)]
            refine hK _ _ ?_;clear hK K
            refine ⟨⟨k + 1, by omega, by simp only [upd, g0, Nc, ↓reduceIte], by simp only [upd, g2, Nc, ↓reduceIte], by simp only [upd, g3, Nc, ↓reduceIte], by simp only [upd, g7, Nc, ↓reduceIte], by simp only [upd, g4, Nc, ↓reduceIte], by simp only [upd, g21, Nc, ↓reduceIte], by simp only [upd, g22, Nc, ↓reduceIte], by simp only [upd, ↓reduceIte], rfl⟩, ?_⟩
            simp only [g23, upd, ↓reduceIte]
            omega
          · have hk2 : ¬ (k : Int) < 4 := by omega
            obtain rfl : k = 4 := by omega
            refine wS fun K hK => ?_
            simp only [↓DN,UP,DF,Qa,Qb,Qc,Qd,Qe,Qf,Qg,Qh,reduceCtorEq,↓reduceIte,Na,Nb,Nc,Nk,Nf,Ng,Nh,Za,Zb,Zc,TT, g23, g22, decide_eq_false hk2]
            refine hK _ _ ?_;clear hK K
            refine wK fun K6 hK6 => ?_
            refine wC fun X Y hX hY => ?_
            simp only [↓DN,UP,DF,Qa,Qb,Qc,Qd,Qe,Qf,Qg,Qh,reduceCtorEq,↓reduceIte,Na,Nb,Nc,Nk,Nf,Ng,Nh,Za,Zb,Zc,TT, DB]
            refine hY ?_;clear hX hY X Y
            refine awp_exit ?_
            simp only [thenQ, blockQ, if_true]
            clear hK6 K6
            refine hK5 _ _ ?_;clear hK5 K5
            refine awp_exit ?_
            simp only [thenQ, blockQ, if_true]
            rw [partW_word c (Sha.sch c i) i h16 hc]
            have : rowP c i (Sha.word c (Sha.sch c i) i) = row c (i + 1) := row_set c i hi'
            rw [this]
            exact hnext _ (by simp only [upd, g0, Nc, ↓reduceIte]) (by simp only [upd, g2, Nc, ↓reduceIte]) (by simp only [upd, g3, Nc, ↓reduceIte]) (by simp only [upd, g7, Nc, ↓reduceIte])
      · have hlt16 : ¬ (i : Int) < 16 := by omega
        have hi0 : (0 : Int) ≤ (i : Int) := by omega
        refine wS fun K hK => ?_
        simp only [↓DN,UP,DF,Qa,Qb,Qc,Qd,Qe,Qf,Qg,Qh,reduceCtorEq,↓reduceIte,Na,Nb,Nc,Nk,Nf,Ng,Nh,Za,Zb,Zc,TT, e0, e7, q64]
        refine hK _ _ ?_;clear hK K
        refine wC fun X Y hX hY => ?_
        simp only [↓DN,UP,DF,Qa,Qb,Qc,Qd,Qe,Qf,Qg,Qh,reduceCtorEq,↓reduceIte,Na,Nb,Nc,Nk,Nf,Ng,Nh,Za,Zb,Zc,TT, DB]
        refine ⟨fun h => absurd h hlt16, fun _ => hY ?_⟩
        clear hX hY X Y
        refine awp_skip ?_
        refine hK4 _ _ ?_;clear hK4 K4
        have n2 : (0 : Int) ≤ ((i - 2 : Nat) : Int) := by omega
        have n7 : (0 : Int) ≤ ((i - 7 : Nat) : Int) := by omega
        have n15 : (0 : Int) ≤ ((i - 15 : Nat) : Int) := by omega
        have n16 : (0 : Int) ≤ ((i - 16 : Nat) : Int) := by omega
        have m2 : ((i - 2 : Nat) : Int) < ((64 : Nat) : Int) := by omega
        have m7 : ((i - 7 : Nat) : Int) < ((64 : Nat) : Int) := by omega
        have m15 : ((i - 15 : Nat) : Int) < ((64 : Nat) : Int) := by omega
        have m16 : ((i - 16 : Nat) : Int) < ((64 : Nat) : Int) := by omega
        have s2 : isub .i64 (i : Int) 2 = ((i - 2 : Nat) : Int) := i64_sub i 2 (by omega) (by omega)
        have s7 : isub .i64 (i : Int) 7 = ((i - 7 : Nat) : Int) := i64_sub i 7 (by omega) (by omega)
        have s15 : isub .i64 (i : Int) 15 = ((i - 15 : Nat) : Int) := i64_sub i 15 (by omega) (by omega)
        have s16 : isub .i64 (i : Int) 16 = ((i - 16 : Nat) : Int) := i64_sub i 16 (by omega) (by omega)
        have d2 := row_drop c i (i - 2) (by omega)
        have d7 := row_drop c i (i - 7) (by omega)
        have d15 := row_drop c i (i - 15) (by omega)
        have d16 := row_drop c i (i - 16) (by omega)
        have hw : Sha.word c (Sha.sch c i) i = Sha.add32 (Sha.add32 (Sha.add32 (Sha.sig2 ((Sha.sch c i).getD (i - 2) 0) 17 19 10) ((Sha.sch c i).getD (i - 7) 0)) (Sha.sig2 ((Sha.sch c i).getD (i - 15) 0) 7 18 3)) ((Sha.sch c i).getD (i - 16) 0) := by rw [Sha.word, if_neg h16]
        have hset := row_set c i hi'
        rw [hw] at hset
        have hlen := row_len c i hi
        have l2 := Sha.sch_getD_lt c i (i - 2)
        have l15 := Sha.sch_getD_lt c i (i - 15)
        generalize (Sha.sch c i).getD (i - 2) 0 = x2 at *
        generalize (Sha.sch c i).getD (i - 7) 0 = x7 at *
        generalize (Sha.sch c i).getD (i - 15) 0 = x15 at *
        generalize (Sha.sch c i).getD (i - 16) 0 = x16 at *
        obtain ⟨R, hR⟩ : ∃ R, R = row c i := ⟨_, rfl⟩
        rw [← hR] at d2 d7 d15 d16 hset hlen ⊢
        refine awp_mrk_end T.mixed [(o3, R)] [5, 15] [4, 9, 14, 20] [23] (by kernel_rfl) (by simp only [Pres_cons, Pres_nil, and_true]; simp [AS.set, upd]) ?_
        intro K hK
        simp only [↓AXr_nil, ↓AXr_cons, gval, lval, fzGet_cons, fzGet_nil, Pres_cons, Pres_nil, List.any_cons, List.any_nil, List.contains_cons, List.contains_nil, Nat.reduceBEq, Bool.or_false, Bool.or_true, Bool.or_self, Bool.false_or, ↓DN,UP,DF,Qa,Qb,Qc,Qd,Qe,Qf,Qg,Qh,reduceCtorEq,↓reduceIte,Na,Nb,Nc,Nk,Nf,Ng,Nh,Za,Zb,Zc,TT, e3, e7, hi0, hi3, n2, n7, n15, n16, m2, m7, m15, m16, s2, s7, s15, s16, d2, d7, d15, d16, h32]
        refine acallk (shifted_calls x2 17 19 10 l2 (by omega) (by omega) (by omega) (by omega) (by omega) (by omega) _) ?_
        rintro r sa ⟨rfl, rfl⟩
        simp only [↓AXq_nil, ↓AXq_cons, pval, ↓AXr_nil, ↓AXr_cons, gval, lval, fzGet_cons, fzGet_nil, Pres_cons, Pres_nil, List.any_cons, List.any_nil, DX, Nat.reduceBEq, ↓DN,UP,DF,Qa,Qb,Qc,Qd,Qe,Qf,Qg,Qh,reduceCtorEq,↓reduceIte,Na,Nb,Nc,Nk,Nf,Ng,Nh,Za,Zb,Zc,TT, e3, e7, hi0, hi3, n2, n7, n15, n16, m2, m7, m15, m16, s2, s7, s15, s16, d2, d7, d15, d16, h32, wadd]
        refine acallk (shifted_calls x15 7 18 3 l15 (by omega) (by omega) (by omega) (by omega) (by omega) (by omega) _) ?_
        rintro r sb ⟨rfl, rfl⟩
        simp only [↓AXq_nil, ↓AXq_cons, pval, ↓AXr_nil, ↓AXr_cons, gval, lval, fzGet_cons, fzGet_nil, Pres_cons, Pres_nil, List.any_cons, List.any_nil, DX, Nat.reduceBEq, ↓DN,UP,DF,Qa,Qb,Qc,Qd,Qe,Qf,Qg,Qh,reduceCtorEq,↓reduceIte,Na,Nb,Nc,Nk,Nf,Ng,Nh,Za,Zb,Zc,TT, e3, e7, hi0, hi3, n2, n7, n15, n16, m2, m7, m15, m16, s2, s7, s15, s16, d2, d7, d15, d16, h32, wadd, hset, hlen]
        refine ⟨by omega, hK _ _ ?_⟩
        clear hK K
        simp only [blockQ, thenQ, if_true, if_false]
        exact hnext _ (by simp only [upd, e0, Nc, ↓reduceIte]) (by simp only [upd, e2, Nc, ↓reduceIte]) (by simp only [upd, e3, Nc, ↓reduceIte]) (by simp only [upd, e7, Nc, ↓reduceIte])
    · have hi2 : ¬ (i : Int) < 64 := by omega
      obtain rfl : i = 64 := by omega
      refine wS fun K hK => ?_
      simp only [↓DN,UP,DF,Qa,Qb,Qc,Qd,Qe,Qf,Qg,Qh,reduceCtorEq,↓reduceIte,Na,Nb,Nc,Nk,Nf,Ng,Nh,Za,Zb,Zc,TT, e7, decide_eq_false hi2]
      refine hK _ _ ?_;clear hK K
      refine wK fun K2 hK2 => ?_
      refine wC fun X Y hX hY => ?_
      simp only [↓DN,UP,DF,Qa,Qb,Qc,Qd,Qe,Qf,Qg,Qh,reduceCtorEq,↓reduceIte,Na,Nb,Nc,Nk,Nf,Ng,Nh,Za,Zb,Zc,TT, DB]
      refine hY ?_;clear hX hY X Y
      refine awp_exit ?_
      simp only [thenQ, blockQ, if_true]
      clear hK2 K2
      refine hK _ _ ?_;clear hK K
      rw [row_full c]
      have hwl : ((Sha.sch c 64).map wV).length = 64 := by simp [Sha.sch_length]
      have hall := all_wV (Sha.sch c 64)
      have htk : List.take 64 ((Sha.sch c 64).map wV) = (Sha.sch c 64).map wV := List.take_of_length_le (by omega)
      obtain ⟨X, hX⟩ : ∃ X, X = (Sha.sch c 64).map wV := ⟨_, rfl⟩
      rw [← hX] at hwl hall htk ⊢
      refine wS fun K hK => ?_
      simp only [↓DN,UP,DF,Qa,Qb,Qc,Qd,Qe,Qf,Qg,Qh,reduceCtorEq,↓reduceIte,Na,Nb,Nc,Nk,Nf,Ng,Nh,Za,Zb,Zc,TT, e2, e3, hwl, htk, hall, h32, h32.symm]
      have hr0 : (row c 0).length = 64 := row_len c 0 (by omega)
      rw [asetAll_whole (row c 0) X (by omega)]
      refine ⟨by omega, hK _ _ ?_⟩
      clear hK K
      refine awp_ret ?_
      refine aends_cell (v := .agg X) (o := o2) (off := 0) (by simp only [upd, e2, Nc, ↓reduceIte]) (AS.set_objs_same _ _ _) (by rw [T.c254]; decide) (by simp only [↓DN,UP,DF,Qa,Qb,Qc,Qd,Qe,Qf,Qg,Qh,reduceCtorEq,↓reduceIte,Na,Nb,Nc,Nk,Nf,Ng,Nh,Za,Zb,Zc,TT, hwl, htk]) ?_
      exact ⟨_, s, AV.weak.refl _, AS.le_set (AS.le_set (AS.le_set (AS.le.refl s) ho2 _) ho3' _) ho2 _, rfl, rfl⟩

end Go.Proofs.YtoagkleecgngdaaGreatDoor


