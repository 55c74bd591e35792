/- Contracts of the program's functions, each walked once; the conditions stand in each theorem. -/
import Derived.Test.YtooeklnbdgoneaaDoorW4
import Derived.Test.YtooeklnbdgoneaaDoorAMp6
import Derived.Test.YtooeklnbdgoneaaDoorW5
set_option linter.unusedSimpArgs false
set_option linter.unusedVariables false
open Nat renaming reduceLT → nLT, reduceLeDiff → nLE, reduceEqDiff → nEQ, reduceAdd → nAdd, reduceMul → nMul, reducePow → nPow, reduceSub → nSub
open Int renaming reduceLT → zLT, reduceLE → zLE, reduceToNat → zNat
open Go.AM renaming ashift → qSh, aconv → qCv, aindexAddr → qIA, aindex → qIx, aslice → qSl, abuiltin → qBu
open Go.AM.AV renaming cells → qCe, one → qOn
set_option autoImplicit false
namespace Go.AM

/-! ### The secrets of an epoch, in plain Lean -/
namespace Sch
def epochW : List UInt8 := [101, 112, 111, 99, 104]
def welcomeW : List UInt8 := [119, 101, 108, 99, 111, 109, 101]
def exporterW : List UInt8 := [101, 120, 112, 111, 114, 116, 101, 114]
def confirmW : List UInt8 := [99, 111, 110, 102, 105, 114, 109]
def memberW : List UInt8 := [109, 101, 109, 98, 101, 114, 115, 104, 105, 112]
def initW : List UInt8 := [105, 110, 105, 116]
def main (j : List UInt8) : List UInt8 := Mac.tag j (List.replicate 32 0)
def epoch (j c : List UInt8) : List UInt8 := Kdf.label (main j) epochW c 32
def of (j c : List UInt8) : List (List UInt8) := [j, Kdf.derive (main j) welcomeW, Kdf.derive (epoch j c) exporterW, Kdf.derive (epoch j c) confirmW, Kdf.derive (epoch j c) memberW, Kdf.derive (epoch j c) initW]
end Sch
end Go.AM


set_option autoImplicit false
namespace Go.AM
/-! ### The cipher, in plain Lean -/
namespace Aes
def dbl (a : UInt8) : UInt8 := (a <<< (1 : UInt8)) ^^^ ((27 : UInt8) &&& ((0 : UInt8) - (a >>> (7 : UInt8))))
/-- What is left of a product. -/
def gm : Nat → UInt8 → UInt8 → UInt8 → UInt8
  | 0, o, _, _ => o
  | f + 1, o, a, b => gm f (o ^^^ (a &&& ((0 : UInt8) - (b &&& 1)))) (dbl a) (b >>> 1)
theorem gm_zero : ∀ (f : Nat) (o a : UInt8), gm f o a 0 = o
  | 0, o, a => rfl
  | f + 1, o, a => by
    have e : o ^^^ (a &&& ((0 : UInt8) - ((0 : UInt8) &&& 1))) = o := by
      have : (0 : UInt8) - ((0 : UInt8) &&& 1) = 0 := by decide
      rw [this]; simp
    rw [gm, e, show (0 : UInt8) >>> 1 = 0 from by decide]
    exact gm_zero f o _
/-- What is left of a power. -/
def pw : Nat → UInt8 → UInt8 → Nat → UInt8
  | 0, o, _, _ => o
  | f + 1, o, a, n => pw f (if n % 2 = 1 then gm 8 0 o a else o) (gm 8 0 a a) (n / 2)
theorem pw_zero : ∀ (f : Nat) (o a : UInt8), pw f o a 0 = o
  | 0, _, _ => rfl
  | f + 1, o, a => by rw [pw]; exact pw_zero f o _
def inv (a : UInt8) : UInt8 := pw 8 1 a 254
def rot (x : UInt8) (i : Nat) : UInt8 := UInt8.ofNat (x.toNat * 2 ^ i) ||| UInt8.ofNat (x.toNat / 2 ^ (8 - i))
def boxP (x : UInt8) : Nat → UInt8
  | 0 => 99 ^^^ x
  | k + 1 => boxP x k ^^^ rot x (k + 1)
def box (c : UInt8) : UInt8 := boxP (inv c) 4

/-! The document's answer, with natural numbers. -/
def sb : List UInt8 := [99, 124, 119, 123, 242, 107, 111, 197, 48, 1, 103, 43, 254, 215, 171, 118, 202, 130, 201, 125, 250, 89, 71, 240, 173, 212, 162, 175, 156, 164, 114, 192, 183, 253, 147, 38, 54, 63, 247, 204, 52, 165, 229, 241, 113, 216, 49, 21, 4, 199, 35, 195, 24, 150, 5, 154, 7, 18, 128, 226, 235, 39, 178, 117, 9, 131, 44, 26, 27, 110, 90, 160, 82, 59, 214, 179, 41, 227, 47, 132, 83, 209, 0, 237, 32, 252, 177, 91, 106, 203, 190, 57, 74, 76, 88, 207, 208, 239, 170, 251, 67, 77, 51, 133, 69, 249, 2, 127, 80, 60, 159, 168, 81, 163, 64, 143, 146, 157, 56, 245, 188, 182, 218, 33, 16, 255, 243, 210, 205, 12, 19, 236, 95, 151, 68, 23, 196, 167, 126, 61, 100, 93, 25, 115, 96, 129, 79, 220, 34, 42, 144, 136, 70, 238, 184, 20, 222, 94, 11, 219, 224, 50, 58, 10, 73, 6, 36, 92, 194, 211, 172, 98, 145, 149, 228, 121, 231, 200, 55, 109, 141, 213, 78, 169, 108, 86, 244, 234, 101, 122, 174, 8, 186, 120, 37, 46, 28, 166, 180, 198, 232, 221, 116, 31, 75, 189, 139, 138, 112, 62, 181, 102, 72, 3, 246, 14, 97, 53, 87, 185, 134, 193, 29, 158, 225, 248, 152, 17, 105, 217, 142, 148, 155, 30, 135, 233, 206, 85, 40, 223, 140, 161, 137, 13, 191, 230, 66, 104, 65, 153, 45, 15, 176, 84, 187, 22]
def S (x : UInt8) : UInt8 := sb.getD x.toNat 0
theorem sb_len : sb.length = 256 := by decide +kernel
theorem sb_box : ∀ i, i < 256 → box (UInt8.ofNat i) = sb.getD i 0 := by decide +kernel
/-! Round keys. -/
def pwr : Nat → UInt8
  | 0 => 1
  | r + 1 => dbl (pwr r)
def nx (k : List UInt8) (p : UInt8) : List UInt8 :=
  match k with
  | [k0, k1, k2, k3, k4, k5, k6, k7, k8, k9, k10, k11, k12, k13, k14, k15] =>
    let a0 := (k0 ^^^ S k13) ^^^ p
    let a1 := k1 ^^^ S k14
    let a2 := k2 ^^^ S k15
    let a3 := k3 ^^^ S k12
    let b0 := k4 ^^^ a0
    let b1 := k5 ^^^ a1
    let b2 := k6 ^^^ a2
    let b3 := k7 ^^^ a3
    let c0 := k8 ^^^ b0
    let c1 := k9 ^^^ b1
    let c2 := k10 ^^^ b2
    let c3 := k11 ^^^ b3
    [a0, a1, a2, a3, b0, b1, b2, b3, c0, c1, c2, c3, k12 ^^^ c0, k13 ^^^ c1, k14 ^^^ c2, k15 ^^^ c3]
  | _ => []
def kr (key : List UInt8) : Nat → List UInt8
  | 0 => key
  | r + 1 => nx (kr key r) (pwr r)
theorem sixteen {α : Type} {l : List α} (h : l.length = 16) : ∃ k0 k1 k2 k3 k4 k5 k6 k7 k8 k9 k10 k11 k12 k13 k14 k15, l = [k0, k1, k2, k3, k4, k5, k6, k7, k8, k9, k10, k11, k12, k13, k14, k15] := by
  match l, h with
  | [k0, k1, k2, k3, k4, k5, k6, k7, k8, k9, k10, k11, k12, k13, k14, k15], _ => exact ⟨k0, k1, k2, k3, k4, k5, k6, k7, k8, k9, k10, k11, k12, k13, k14, k15, rfl⟩
theorem nx_len {k : List UInt8} (h : k.length = 16) (p : UInt8) : (nx k p).length = 16 := by
  obtain ⟨k0, k1, k2, k3, k4, k5, k6, k7, k8, k9, k10, k11, k12, k13, k14, k15, rfl⟩ := sixteen h
  rfl
theorem kr_len {key : List UInt8} (h : key.length = 16) : ∀ r, (kr key r).length = 16
  | 0 => h
  | r + 1 => nx_len (kr_len h r) _
theorem nx_low {k : List UInt8} (h : k.length = 16) (p : UInt8) (j : Nat) (hj : j < 4) : (nx k p).getD j 0 = if j = 0 then (k.getD j 0 ^^^ S (k.getD (12 + (j + 1) % 4) 0)) ^^^ p else k.getD j 0 ^^^ S (k.getD (12 + (j + 1) % 4) 0) := by
  obtain ⟨k0, k1, k2, k3, k4, k5, k6, k7, k8, k9, k10, k11, k12, k13, k14, k15, rfl⟩ := sixteen h
  rcases (show j = 0 ∨ j = 1 ∨ j = 2 ∨ j = 3 by omega) with rfl | rfl | rfl | rfl <;> rfl
theorem nx_high {k : List UInt8} (h : k.length = 16) (p : UInt8) (j : Nat) (h4 : 4 ≤ j) (hj : j < 16) : (nx k p).getD j 0 = k.getD j 0 ^^^ (nx k p).getD (j - 4) 0 := by
  obtain ⟨k0, k1, k2, k3, k4, k5, k6, k7, k8, k9, k10, k11, k12, k13, k14, k15, rfl⟩ := sixteen h
  rcases (show j = 4 ∨ j = 5 ∨ j = 6 ∨ j = 7 ∨ j = 8 ∨ j = 9 ∨ j = 10 ∨ j = 11 ∨ j = 12 ∨ j = 13 ∨ j = 14 ∨ j = 15 by omega) with rfl | rfl | rfl | rfl | rfl | rfl | rfl | rfl | rfl | rfl | rfl | rfl <;> rfl
/-- An octet of the round keys. -/
def ak (key : List UInt8) (n : Nat) : UInt8 := (kr key (n / 16)).getD (n % 16) 0
theorem ak_low {key : List UInt8} (h : key.length = 16) (r j : Nat) (hj : j < 4) : ak key (16 * (r + 1) + j) = if j = 0 then (ak key (16 * r + j) ^^^ S (ak key (16 * r + (12 + (j + 1) % 4)))) ^^^ pwr r else ak key (16 * r + j) ^^^ S (ak key (16 * r + (12 + (j + 1) % 4))) := by
  have e1 : (16 * (r + 1) + j) / 16 = r + 1 := by omega
  have e2 : (16 * (r + 1) + j) % 16 = j := by omega
  have e3 : (16 * r + j) / 16 = r := by omega
  have e4 : (16 * r + j) % 16 = j := by omega
  have e5 : (16 * r + (12 + (j + 1) % 4)) / 16 = r := by omega
  have e6 : (16 * r + (12 + (j + 1) % 4)) % 16 = 12 + (j + 1) % 4 := by omega
  simp only [ak, e1, e2, e3, e4, e5, e6]
  exact nx_low (kr_len h r) (pwr r) j hj
theorem ak_high {key : List UInt8} (h : key.length = 16) (r j : Nat) (h4 : 4 ≤ j) (hj : j < 16) : ak key (16 * (r + 1) + j) = ak key (16 * r + j) ^^^ ak key (16 * (r + 1) + (j - 4)) := by
  have e1 : (16 * (r + 1) + j) / 16 = r + 1 := by omega
  have e2 : (16 * (r + 1) + j) % 16 = j := by omega
  have e3 : (16 * r + j) / 16 = r := by omega
  have e4 : (16 * r + j) % 16 = j := by omega
  have e5 : (16 * (r + 1) + (j - 4)) / 16 = r + 1 := by omega
  have e6 : (16 * (r + 1) + (j - 4)) % 16 = j - 4 := by omega
  simp only [ak, e1, e2, e3, e4, e5, e6]
  exact nx_high (kr_len h r) (pwr r) j h4 hj
theorem ak_key {key : List UInt8} (n : Nat) (hn : n < 16) : ak key n = key.getD n 0 := by
  rw [ak, Nat.div_eq_of_lt hn, Nat.mod_eq_of_lt hn]; rfl

/-! Rounds. -/
def sh (b : List UInt8) (n : Nat) : UInt8 := S (b.getD (4 * ((n / 4 + n % 4) % 4) + n % 4) 0)
def mx (c : Nat → UInt8) (i : Nat) : UInt8 := (((dbl (c i) ^^^ dbl (c ((i + 1) % 4))) ^^^ c ((i + 1) % 4)) ^^^ c ((i + 2) % 4)) ^^^ c ((i + 3) % 4)
def rnd (b : List UInt8) (last : Bool) : List UInt8 := (List.range 16).map fun n => if last then sh b n else mx (fun i => sh b (4 * (n / 4) + i)) (n % 4)
def add (b k : List UInt8) : List UInt8 := (List.range 16).map fun n => b.getD n 0 ^^^ k.getD n 0
def state (key b : List UInt8) : Nat → List UInt8
  | 0 => add b (kr key 0)
  | r + 1 => add (rnd (state key b r) (r + 1 == 10)) (kr key (r + 1))
def block (key b : List UInt8) : List UInt8 := state key b 10
theorem rnd_len (b : List UInt8) (l : Bool) : (rnd b l).length = 16 := by simp [rnd]
theorem add_len (b k : List UInt8) : (add b k).length = 16 := by simp [add]
theorem state_len (key b : List UInt8) : ∀ r, (state key b r).length = 16
  | 0 => add_len _ _
  | r + 1 => add_len _ _
theorem block_len (key b : List UInt8) : (block key b).length = 16 := state_len key b 10
theorem range_get {α : Type} (f : Nat → α) (N n : Nat) (d : α) (h : n < N) : ((List.range N).map f).getD n d = f n := by
  simp [List.getD_eq_getElem?_getD, h]
theorem rnd_get (b : List UInt8) (l : Bool) (n : Nat) (h : n < 16) : (rnd b l).getD n 0 = if l then sh b n else mx (fun i => sh b (4 * (n / 4) + i)) (n % 4) := range_get _ _ _ _ h
/-! The mask. -/
def first (nonce : List UInt8) : Nat := beNat (nonce.drop 12)
def ctr (nonce : List UInt8) (i : Nat) : List UInt8 := nonce.take 12 ++ be 4 ((first nonce + i) % 4294967296)
def maskB (key nonce : List UInt8) (p : Nat) : UInt8 := (block (key.take 16) (ctr nonce (p / 16))).getD (p % 16) 0
def mask (key nonce text : List UInt8) : List UInt8 := (List.range text.length).map fun p => text.getD p 0 ^^^ maskB key nonce p
theorem mask_len (key nonce text : List UInt8) : (mask key nonce text).length = text.length := by simp [mask]
theorem mask_get (key nonce text : List UInt8) (p : Nat) (h : p < text.length) : (mask key nonce text).getD p 0 = text.getD p 0 ^^^ maskB key nonce p := range_get _ _ _ _ h
theorem mask_back (key nonce text : List UInt8) : mask key nonce (mask key nonce text) = text := by
  apply List.ext_getElem
  · simp [mask]
  · intro p h1 h2
    have hp : p < text.length := h2
    have e := mask_get key nonce (mask key nonce text) p (by rw [mask_len]; exact hp)
    rw [mask_get key nonce text p hp, UInt8.xor_assoc, UInt8.xor_self, UInt8.xor_zero] at e
    rw [List.getD_eq_getElem?_getD, List.getElem?_eq_getElem h1, List.getD_eq_getElem?_getD, List.getElem?_eq_getElem h2] at e
    simpa using e
def tag (key nonce beside masked : List UInt8) : List UInt8 := (Mac.tag (key.drop 16) (be 4 beside.length ++ (beside ++ (nonce ++ masked)))).take 16
theorem tag_len (key nonce beside masked : List UInt8) : (tag key nonce beside masked).length = 16 := by simp [tag, Mac.tag_len]
def sealed (key nonce beside text : List UInt8) : List UInt8 := mask key nonce text ++ tag key nonce beside (mask key nonce text)
end Aes
end Go.AM


set_option autoImplicit false
namespace Go.Proofs.YtooeklnbdgoneaaDoor
open Go Go.AM Go.Proofs

theorem RAes1127 : type_of% (And.intro (And.intro (And.intro @Tryd.underlying5 T.c5) (And.intro T.g5 (And.intro T.b5 T.z5))) Tryd.ntmps127) :=
  (And.intro (And.intro (And.intro @Tryd.underlying5 T.c5) (And.intro T.g5 (And.intro T.b5 T.z5))) Tryd.ntmps127)
theorem RAes1131 : type_of% (And.intro (And.intro (And.intro @Tryd.underlying5 (And.intro T.c5 T.g5)) (And.intro T.b5 (And.intro T.z5 T.k127))) Tryd.ntmps131) :=
  (And.intro (And.intro (And.intro @Tryd.underlying5 (And.intro T.c5 T.g5)) (And.intro T.b5 (And.intro T.z5 T.k127))) Tryd.ntmps131)

variable {Γ : Nat → List AV}

/-- An octet. -/
abbrev bV (x : UInt8) : AV := .v (.int .u8 (x.toNat : Int))
theorem u8_lt (x : UInt8) : x.toNat < 2 ^ IntKind.u8.bits := by simpa [IntKind.bits] using x.toNat_lt
theorem b_xor (a b : UInt8) : ixor .u8 (a.toNat : Int) (b.toNat : Int) = (((a ^^^ b).toNat : Nat) : Int) := by
  rw [ixor_u (k := .u8) rfl a.toNat b.toNat (u8_lt a) (u8_lt b), UInt8.toNat_xor]
theorem b_and (a b : UInt8) : iand .u8 (a.toNat : Int) (b.toNat : Int) = (((a &&& b).toNat : Nat) : Int) := by
  rw [iand_u (k := .u8) rfl a.toNat b.toNat (u8_lt a) (u8_lt b), UInt8.toNat_and]
theorem b_and27 (b : UInt8) : iand .u8 27 (b.toNat : Int) = ((((27 : UInt8) &&& b).toNat : Nat) : Int) := b_and 27 b
theorem b_and1 (b : UInt8) : iand .u8 (b.toNat : Int) 1 = (((b &&& (1 : UInt8)).toNat : Nat) : Int) := b_and b 1
theorem b_xor99 (b : UInt8) : ixor .u8 99 (b.toNat : Int) = ((((99 : UInt8) ^^^ b).toNat : Nat) : Int) := b_xor 99 b
theorem b_neg (a : UInt8) : ineg .u8 (a.toNat : Int) = ((((0 : UInt8) - a).toNat : Nat) : Int) := by
  have := a.toNat_lt
  rw [ineg, wrap_u rfl, UInt8.toNat_sub]
  simp only [IntKind.bits]
  rw [show (0 : UInt8).toNat = 0 from rfl]
  omega
theorem b_shl1 (a : UInt8) : ishl .u8 (a.toNat : Int) 1 = (((a <<< (1 : UInt8)).toNat : Nat) : Int) := by
  have := ishl_u (k := .u8) rfl a.toNat 1
  rw [show (1 : Int) = ((1 : Nat) : Int) from rfl, this, UInt8.toNat_shiftLeft]
  simp [IntKind.bits, Nat.shiftLeft_eq]
theorem b_shr1 (a : UInt8) : ishr .u8 (a.toNat : Int) 1 = (((a >>> (1 : UInt8)).toNat : Nat) : Int) := by
  have := ishr_u (k := .u8) a.toNat 1
  rw [show (1 : Int) = ((1 : Nat) : Int) from rfl, this, UInt8.toNat_shiftRight]
  simp [IntKind.bits, Nat.shiftRight_eq_div_pow]
theorem b_shr7 (a : UInt8) : ishr .u8 (a.toNat : Int) 7 = (((a >>> (7 : UInt8)).toNat : Nat) : Int) := by
  have := ishr_u (k := .u8) a.toNat 7
  rw [show (7 : Int) = ((7 : Nat) : Int) from rfl, this, UInt8.toNat_shiftRight]
  simp [IntKind.bits, Nat.shiftRight_eq_div_pow]
theorem shr1_half (b : UInt8) : (b >>> (1 : UInt8)).toNat = b.toNat / 2 := by
  rw [UInt8.toNat_shiftRight]
  simp [Nat.shiftRight_eq_div_pow]

set_option maxHeartbeats 400000 in
theorem double_calls (a : UInt8) (s : AS) : ACalls Tryd.prog Γ 127 [bV a] s (fun r s' => r = bV (Aes.dbl a) ∧ s' = s) := by
  refine acalls_body Tryd.func127 rfl Tryd.ntmps127 Tryd.results127 (by simp) ?_
  refine awp_reg_seq ?_
  intro K hK
  simp only [↓DN, UP, DF, qSh, qCv, qIA, qIx, qSl, qBu, qCe, qOn, reduceCtorEq, ↓reduceIte, nLT, nLE, nEQ, nAdd, nMul, nPow, nSub, zLT, zLE, zNat, RAes1127]
  refine hK _ _ ?_
  clear hK K
  refine awp_reg_seq ?_
  intro K hK
  simp only [↓DN, UP, DF, qSh, qCv, qIA, qIx, qSl, qBu, qCe, qOn, reduceCtorEq, ↓reduceIte, nLT, nLE, nEQ, nAdd, nMul, nPow, nSub, zLT, zLE, zNat, RAes1127, b_shl1, b_shr7, b_neg, b_and27, b_xor]
  refine hK _ _ ?_
  clear hK K
  refine awp_ret ?_
  simp only [retQ, AEnds, aresL, ares, List.toList_toArray, ↓upd_same]; try simp only [↓DN, UP, DF, qSh, qCv, qIA, qIx, qSl, qBu, qCe, qOn, reduceCtorEq, ↓reduceIte, nLT, nLE, nEQ, nAdd, nMul, nPow, nSub, zLT, zLE, zNat, RAes1127, DT]
  exact ⟨_, _, AV.weak.refl _, AS.le.refl _, rfl, rfl⟩

set_option maxHeartbeats 1000000 in
theorem aesMul_calls (x y : UInt8) (s : AS) : ACalls Tryd.prog Γ 131 [bV x, bV y] s (fun r s' => r = bV (Aes.gm 8 0 x y) ∧ s' = s) := by
  refine acalls_body Tryd.func131 rfl Tryd.ntmps131 Tryd.results131 (by simp) ?_
  refine awp_reg_seq ?_
  intro K hK
  simp only [↓DN, UP, DF, qSh, qCv, qIA, qIx, qSl, qBu, qCe, qOn, reduceCtorEq, ↓reduceIte, nLT, nLE, nEQ, nAdd, nMul, nPow, nSub, zLT, zLE, zNat, RAes1131]
  refine hK _ _ ?_
  clear hK K
  refine awp_reg_seq ?_
  intro K hK
  simp only [↓DN, UP, DF, qSh, qCv, qIA, qIx, qSl, qBu, qCe, qOn, reduceCtorEq, ↓reduceIte, nLT, nLE, nEQ, nAdd, nMul, nPow, nSub, zLT, zLE, zNat, RAes1131]
  refine hK _ _ ?_
  clear hK K
  refine awp_seq_k ?_
  intro K hK
  refine awp_block ?_
  refine awp_loop (fun E s1 => ∃ (f : Nat) (o a b : UInt8), E 5 = bV o ∧ E 0 = bV a ∧ E 1 = bV b ∧ b.toNat < 2 ^ f ∧ Aes.gm f o a b = Aes.gm 8 0 x y ∧ s1 = s)
    (fun E _ => match E 1 with | .v (.int _ i) => i.toNat | _ => 0) ?_ ?_
  · exact ⟨8, 0, x, y, by simp [upd], by simp [upd, initE], by simp [upd, initE], y.toNat_lt, rfl, rfl⟩
  · rintro E1 s1 ⟨f, o, a, b, h5, h0, h1, hb, hinv, rfl⟩ -
    refine awp_seq_k ?_
    intro K2 hK2
    by_cases hb0 : b.toNat = 0
    · refine awp_reg_seq ?_
      intro K hK
      simp only [↓DN, UP, DF, qSh, qCv, qIA, qIx, qSl, qBu, qCe, qOn, reduceCtorEq, ↓reduceIte, nLT, nLE, nEQ, nAdd, nMul, nPow, nSub, zLT, zLE, zNat, RAes1131, h1, decide_eq_false (show ¬ (0 : Int) < (b.toNat : Int) by omega)]
      refine hK _ _ ?_
      clear hK K
      refine awp_cond_k ?_
      intro X Y hX hY
      simp only [↓DN, UP, DF, qSh, qCv, qIA, qIx, qSl, qBu, qCe, qOn, reduceCtorEq, ↓reduceIte, nLT, nLE, nEQ, nAdd, nMul, nPow, nSub, zLT, zLE, zNat, RAes1131, DB]
      refine hY ?_
      clear hX hY X Y
      refine awp_exit ?_
      simp only [thenQ, blockQ, if_true]
      refine hK _ _ ?_
      clear hK hK2 K K2
      refine awp_reg_seq ?_
      intro K hK
      simp only [↓DN, UP, DF, qSh, qCv, qIA, qIx, qSl, qBu, qCe, qOn, reduceCtorEq, ↓reduceIte, nLT, nLE, nEQ, nAdd, nMul, nPow, nSub, zLT, zLE, zNat, RAes1131, h5]
      refine hK _ _ ?_
      clear hK K
      refine awp_ret ?_
      simp only [retQ, AEnds, aresL, ares, List.toList_toArray, ↓upd_same]; try simp only [↓DN, UP, DF, qSh, qCv, qIA, qIx, qSl, qBu, qCe, qOn, reduceCtorEq, ↓reduceIte, nLT, nLE, nEQ, nAdd, nMul, nPow, nSub, zLT, zLE, zNat, RAes1131, DT]
      refine ⟨_, _, AV.weak.refl _, AS.le.refl _, ?_, rfl⟩
      have e : b = 0 := UInt8.toNat_inj.1 (by rw [hb0]; rfl)
      rw [← hinv, e, Aes.gm_zero]
    · refine awp_reg_seq ?_
      intro K hK
      simp only [↓DN, UP, DF, qSh, qCv, qIA, qIx, qSl, qBu, qCe, qOn, reduceCtorEq, ↓reduceIte, nLT, nLE, nEQ, nAdd, nMul, nPow, nSub, zLT, zLE, zNat, RAes1131, h1, decide_eq_true (show (0 : Int) < (b.toNat : Int) by omega)]
      refine hK _ _ ?_
      clear hK K
      refine awp_cond_k ?_
      intro X Y hX hY
      simp only [↓DN, UP, DF, qSh, qCv, qIA, qIx, qSl, qBu, qCe, qOn, reduceCtorEq, ↓reduceIte, nLT, nLE, nEQ, nAdd, nMul, nPow, nSub, zLT, zLE, zNat, RAes1131, DB]
      refine hX ?_
      clear hX hY X Y
      refine awp_skip ?_
      refine hK2 _ _ ?_
      clear hK2 K2
      refine awp_seq_k ?_
      intro K3 hK3
      refine awp_block ?_
      refine awp_reg_seq ?_
      intro K hK
      simp only [↓DN, UP, DF, qSh, qCv, qIA, qIx, qSl, qBu, qCe, qOn, reduceCtorEq, ↓reduceIte, nLT, nLE, nEQ, nAdd, nMul, nPow, nSub, zLT, zLE, zNat, RAes1131, h5, h0, h1, b_and1, b_neg, b_and, b_xor]
      refine hK _ _ ?_
      clear hK K
      refine awp_reg_end ?_
      intro K hK
      simp only [↓DN, UP, DF, qSh, qCv, qIA, qIx, qSl, qBu, qCe, qOn, reduceCtorEq, ↓reduceIte, nLT, nLE, nEQ, nAdd, nMul, nPow, nSub, zLT, zLE, zNat, RAes1131, h0]
      refine acallk (double_calls a _) ?_
      rintro r s' ⟨rfl, rfl⟩
      simp only [↓AXq_nil, ↓AXq_cons, pval, DX, Nat.reduceBEq, ↓DN, UP, DF, qSh, qCv, qIA, qIx, qSl, qBu, qCe, qOn, reduceCtorEq, ↓reduceIte, nLT, nLE, nEQ, nAdd, nMul, nPow, nSub, zLT, zLE, zNat, RAes1131]
      refine hK _ _ ?_
      clear hK K
      simp only [blockQ, thenQ, if_true, if_false]
      refine hK3 _ _ ?_
      clear hK3 K3
      obtain ⟨g, rfl⟩ : ∃ g, f = g + 1 := ⟨f - 1, by
        cases f with
        | zero => simp at hb; omega
        | succ f => simp⟩
      refine awp_reg_end ?_
      intro K hK
      simp only [↓DN, UP, DF, qSh, qCv, qIA, qIx, qSl, qBu, qCe, qOn, reduceCtorEq, ↓reduceIte, nLT, nLE, nEQ, nAdd, nMul, nPow, nSub, zLT, zLE, zNat, RAes1131, h1, b_shr1]
      refine hK _ _ ?_
      clear hK K
      refine ⟨⟨g, o ^^^ (a &&& ((0 : UInt8) - (b &&& 1))), Aes.dbl a, b >>> 1, by simp only [upd, nEQ, ↓reduceIte], by simp only [upd, nEQ, ↓reduceIte], by simp only [upd, ↓reduceIte], ?_, hinv, rfl⟩, ?_⟩
      · rw [shr1_half]
        rw [Nat.pow_succ] at hb
        omega
      · simp only [h1, upd, ↓reduceIte, shr1_half]
        omega

end Go.Proofs.YtooeklnbdgoneaaDoor


set_option autoImplicit false
namespace Go.Proofs.YtooeklnbdgoneaaDoor
open Go Go.AM Go.Proofs

theorem RAes2129 : type_of% (And.intro (And.intro (And.intro (And.intro @Tryd.underlying3 T.c3) (And.intro T.g3 (And.intro T.b3 T.z3))) (And.intro (And.intro @Tryd.underlying5 (And.intro T.c5 T.g5)) (And.intro T.b5 (And.intro T.z5 T.k131)))) Tryd.ntmps129) :=
  (And.intro (And.intro (And.intro (And.intro @Tryd.underlying3 T.c3) (And.intro T.g3 (And.intro T.b3 T.z3))) (And.intro (And.intro @Tryd.underlying5 (And.intro T.c5 T.g5)) (And.intro T.b5 (And.intro T.z5 T.k131)))) Tryd.ntmps129)
theorem RAes2130 : type_of% (And.intro (And.intro (And.intro (And.intro @Tryd.underlying3 (And.intro T.c3 T.g3)) (And.intro (And.intro T.b3 T.z3) (And.intro @Tryd.underlying5 T.c5))) (And.intro (And.intro (And.intro T.g5 T.b5) (And.intro T.z5 @Tryd.underlying85)) (And.intro (And.intro T.c85 T.g85) (And.intro T.b85 T.z85)))) Tryd.ntmps130) :=
  (And.intro (And.intro (And.intro (And.intro @Tryd.underlying3 (And.intro T.c3 T.g3)) (And.intro (And.intro T.b3 T.z3) (And.intro @Tryd.underlying5 T.c5))) (And.intro (And.intro (And.intro T.g5 T.b5) (And.intro T.z5 @Tryd.underlying85)) (And.intro (And.intro T.c85 T.g85) (And.intro T.b85 T.z85)))) Tryd.ntmps130)
theorem RAes2126 : type_of% (And.intro (And.intro (And.intro (And.intro @Tryd.underlying3 (And.intro T.c3 T.g3)) (And.intro T.b3 (And.intro T.z3 @Tryd.underlying5))) (And.intro (And.intro T.c5 (And.intro T.g5 T.b5)) (And.intro T.z5 (And.intro T.k129 T.k130)))) Tryd.ntmps126) :=
  (And.intro (And.intro (And.intro (And.intro @Tryd.underlying3 (And.intro T.c3 T.g3)) (And.intro T.b3 (And.intro T.z3 @Tryd.underlying5))) (And.intro (And.intro T.c5 (And.intro T.g5 T.b5)) (And.intro T.z5 (And.intro T.k129 T.k130)))) Tryd.ntmps126)

variable {Γ : Nat → List AV}

theorem n_and1 : ∀ n : Nat, n < 256 → iand .i64 (n : Int) 1 = ((n % 2 : Nat) : Int) := by decide +kernel
theorem n_shr1 (n : Nat) : ishr .i64 (n : Int) 1 = ((n / 2 : Nat) : Int) := by
  have := ishr_u (k := .i64) n 1
  rw [show (1 : Int) = ((1 : Nat) : Int) from rfl, this]
  simp [IntKind.bits]
theorem one_beq : (((1 : Nat) : Int) == 1) = true := rfl
theorem zero_beq1 : (((0 : Nat) : Int) == 1) = false := rfl

set_option maxHeartbeats 1000000 in
theorem inverse_calls (x : UInt8) (s : AS) : ACalls Tryd.prog Γ 129 [bV x] s (fun r s' => r = bV (Aes.inv x) ∧ s' = s) := by
  refine acalls_body Tryd.func129 rfl Tryd.ntmps129 Tryd.results129 (by simp) ?_
  refine awp_reg_seq ?_
  intro K hK
  simp only [↓DN, UP, DF, qSh, qCv, qIA, qIx, qSl, qBu, qCe, qOn, reduceCtorEq, ↓reduceIte, nLT, nLE, nEQ, nAdd, nMul, nPow, nSub, zLT, zLE, zNat, RAes2129]
  refine hK _ _ ?_
  clear hK K
  refine awp_reg_seq ?_
  intro K hK
  simp only [↓DN, UP, DF, qSh, qCv, qIA, qIx, qSl, qBu, qCe, qOn, reduceCtorEq, ↓reduceIte, nLT, nLE, nEQ, nAdd, nMul, nPow, nSub, zLT, zLE, zNat, RAes2129]
  refine hK _ _ ?_
  clear hK K
  refine awp_seq_k ?_
  intro K hK
  refine awp_reg_seq ?_
  intro K hK
  simp only [↓DN, UP, DF, qSh, qCv, qIA, qIx, qSl, qBu, qCe, qOn, reduceCtorEq, ↓reduceIte, nLT, nLE, nEQ, nAdd, nMul, nPow, nSub, zLT, zLE, zNat, RAes2129]
  refine hK _ _ ?_
  clear hK K
  refine awp_block ?_
  refine awp_loop (fun E s1 => ∃ (f : Nat) (o a : UInt8) (n : Nat), E 3 = bV o ∧ E 0 = bV a ∧ E 4 = .v (.int .i64 n) ∧ n < 2 ^ f ∧ n < 256 ∧ Aes.pw f o a n = Aes.pw 8 1 x 254 ∧ s1 = s)
    (fun E _ => match E 4 with | .v (.int _ i) => i.toNat | _ => 0) ?_ ?_
  · exact ⟨8, 1, x, 254, by simp only [upd, nEQ, ↓reduceIte]; rfl, by simp only [upd, initE, nEQ, ↓reduceIte]; rfl, by simp only [upd, ↓reduceIte]; rfl, by decide, by decide, rfl, rfl⟩
  · rintro E1 s1 ⟨f, o, a, n, h3, h0, h4, hn, hn2, hinv, rfl⟩ -
    refine awp_seq_k ?_
    intro K2 hK2
    by_cases hn0 : n = 0
    · refine awp_reg_seq ?_
      intro K hK
      simp only [↓DN, UP, DF, qSh, qCv, qIA, qIx, qSl, qBu, qCe, qOn, reduceCtorEq, ↓reduceIte, nLT, nLE, nEQ, nAdd, nMul, nPow, nSub, zLT, zLE, zNat, RAes2129, h4, decide_eq_false (show ¬ (0 : Int) < (n : Int) by omega)]
      refine hK _ _ ?_
      clear hK K
      refine awp_cond_k ?_
      intro X Y hX hY
      simp only [↓DN, UP, DF, qSh, qCv, qIA, qIx, qSl, qBu, qCe, qOn, reduceCtorEq, ↓reduceIte, nLT, nLE, nEQ, nAdd, nMul, nPow, nSub, zLT, zLE, zNat, RAes2129, DB]
      refine hY ?_
      clear hX hY X Y
      refine awp_exit ?_
      simp only [thenQ, blockQ, if_true]
      refine hK _ _ ?_
      clear hK hK2 K K2
      refine awp_reg_seq ?_
      intro K hK
      simp only [↓DN, UP, DF, qSh, qCv, qIA, qIx, qSl, qBu, qCe, qOn, reduceCtorEq, ↓reduceIte, nLT, nLE, nEQ, nAdd, nMul, nPow, nSub, zLT, zLE, zNat, RAes2129, h3]
      refine hK _ _ ?_
      clear hK K
      refine awp_ret ?_
      simp only [retQ, AEnds, aresL, ares, List.toList_toArray, ↓upd_same]; try simp only [↓DN, UP, DF, qSh, qCv, qIA, qIx, qSl, qBu, qCe, qOn, reduceCtorEq, ↓reduceIte, nLT, nLE, nEQ, nAdd, nMul, nPow, nSub, zLT, zLE, zNat, RAes2129, DT]
      refine ⟨_, _, AV.weak.refl _, AS.le.refl _, ?_, rfl⟩
      rw [Aes.inv, ← hinv, hn0, Aes.pw_zero]
    · refine awp_reg_seq ?_
      intro K hK
      simp only [↓DN, UP, DF, qSh, qCv, qIA, qIx, qSl, qBu, qCe, qOn, reduceCtorEq, ↓reduceIte, nLT, nLE, nEQ, nAdd, nMul, nPow, nSub, zLT, zLE, zNat, RAes2129, h4, decide_eq_true (show (0 : Int) < (n : Int) by omega)]
      refine hK _ _ ?_
      clear hK K
      refine awp_cond_k ?_
      intro X Y hX hY
      simp only [↓DN, UP, DF, qSh, qCv, qIA, qIx, qSl, qBu, qCe, qOn, reduceCtorEq, ↓reduceIte, nLT, nLE, nEQ, nAdd, nMul, nPow, nSub, zLT, zLE, zNat, RAes2129, DB]
      refine hX ?_
      clear hX hY X Y
      refine awp_skip ?_
      refine hK2 _ _ ?_
      clear hK2 K2
      refine awp_seq_k ?_
      intro K3 hK3
      refine awp_block ?_
      refine awp_seq_k ?_
      intro K4 hK4
      obtain ⟨g, rfl⟩ : ∃ g, f = g + 1 := ⟨f - 1, by
        cases f with
        | zero => simp at hn; omega
        | succ f => simp⟩
      have hstep : Aes.pw (g + 1) o a n = Aes.pw g (if n % 2 = 1 then Aes.gm 8 0 o a else o) (Aes.gm 8 0 a a) (n / 2) := rfl
      have hgo : ∀ (E2 : Env) (o2 : UInt8), E2 3 = bV o2 → E2 0 = bV a → E2 4 = .v (.int .i64 n) → Aes.pw g o2 (Aes.gm 8 0 a a) (n / 2) = Aes.pw 8 1 x 254 → K4 E2 s1 := by
        intro E2 o2 e3 e0 e4 hinv2
        refine hK4 _ _ ?_
        clear hK4 K4
        refine awp_reg_end ?_
        intro K hK
        simp only [↓DN, UP, DF, qSh, qCv, qIA, qIx, qSl, qBu, qCe, qOn, reduceCtorEq, ↓reduceIte, nLT, nLE, nEQ, nAdd, nMul, nPow, nSub, zLT, zLE, zNat, RAes2129, e0]
        refine acallk (aesMul_calls a a s1) ?_
        rintro r s' ⟨rfl, rfl⟩
        simp only [↓AXq_nil, ↓AXq_cons, pval, DX, Nat.reduceBEq, ↓DN, UP, DF, qSh, qCv, qIA, qIx, qSl, qBu, qCe, qOn, reduceCtorEq, ↓reduceIte, nLT, nLE, nEQ, nAdd, nMul, nPow, nSub, zLT, zLE, zNat, RAes2129]
        refine hK _ _ ?_
        clear hK K
        simp only [blockQ, thenQ, if_true, if_false]
        refine hK3 _ _ ?_
        clear hK3 K3
        refine awp_reg_end ?_
        intro K hK
        simp only [↓DN, UP, DF, qSh, qCv, qIA, qIx, qSl, qBu, qCe, qOn, reduceCtorEq, ↓reduceIte, nLT, nLE, nEQ, nAdd, nMul, nPow, nSub, zLT, zLE, zNat, RAes2129, e4, n_shr1]
        refine hK _ _ ?_
        clear hK K
        refine ⟨⟨g, o2, Aes.gm 8 0 a a, n / 2, by simp only [upd, e3, nEQ, ↓reduceIte], by simp only [upd, nEQ, ↓reduceIte], by simp only [upd, ↓reduceIte], by rw [Nat.pow_succ] at hn; omega, by omega, hinv2, rfl⟩, ?_⟩
        simp only [h4, upd, ↓reduceIte]
        omega
      by_cases hodd : n % 2 = 1
      · refine awp_reg_seq ?_
        intro K hK
        simp only [↓DN, UP, DF, qSh, qCv, qIA, qIx, qSl, qBu, qCe, qOn, reduceCtorEq, ↓reduceIte, nLT, nLE, nEQ, nAdd, nMul, nPow, nSub, zLT, zLE, zNat, RAes2129, h4, n_and1 n hn2, hodd, one_beq]
        refine hK _ _ ?_
        clear hK K
        refine awp_cond_k ?_
        intro X Y hX hY
        simp only [↓DN, UP, DF, qSh, qCv, qIA, qIx, qSl, qBu, qCe, qOn, reduceCtorEq, ↓reduceIte, nLT, nLE, nEQ, nAdd, nMul, nPow, nSub, zLT, zLE, zNat, RAes2129, DB]
        refine hX ?_
        clear hX hY X Y
        refine awp_reg_end ?_
        intro K hK
        simp only [↓DN, UP, DF, qSh, qCv, qIA, qIx, qSl, qBu, qCe, qOn, reduceCtorEq, ↓reduceIte, nLT, nLE, nEQ, nAdd, nMul, nPow, nSub, zLT, zLE, zNat, RAes2129, h3, h0]
        refine acallk (aesMul_calls o a s1) ?_
        rintro r s' ⟨rfl, rfl⟩
        simp only [↓AXq_nil, ↓AXq_cons, pval, DX, Nat.reduceBEq, ↓DN, UP, DF, qSh, qCv, qIA, qIx, qSl, qBu, qCe, qOn, reduceCtorEq, ↓reduceIte, nLT, nLE, nEQ, nAdd, nMul, nPow, nSub, zLT, zLE, zNat, RAes2129]
        refine hK _ _ ?_
        clear hK K
        refine hgo _ (Aes.gm 8 0 o a) (by simp only [upd, ↓reduceIte]) (by simp only [upd, h0, nEQ, ↓reduceIte]) (by simp only [upd, h4, nEQ, ↓reduceIte]) ?_
        rw [← hinv, hstep, if_pos hodd]
      · have heven : n % 2 = 0 := by omega
        refine awp_reg_seq ?_
        intro K hK
        simp only [↓DN, UP, DF, qSh, qCv, qIA, qIx, qSl, qBu, qCe, qOn, reduceCtorEq, ↓reduceIte, nLT, nLE, nEQ, nAdd, nMul, nPow, nSub, zLT, zLE, zNat, RAes2129, h4, n_and1 n hn2, heven, zero_beq1]
        refine hK _ _ ?_
        clear hK K
        refine awp_cond_k ?_
        intro X Y hX hY
        simp only [↓DN, UP, DF, qSh, qCv, qIA, qIx, qSl, qBu, qCe, qOn, reduceCtorEq, ↓reduceIte, nLT, nLE, nEQ, nAdd, nMul, nPow, nSub, zLT, zLE, zNat, RAes2129, DB]
        refine hY ?_
        clear hX hY X Y
        refine awp_skip ?_
        refine hgo _ o (by simp only [upd, h3, nEQ, ↓reduceIte]) (by simp only [upd, h0, nEQ, ↓reduceIte]) (by simp only [upd, h4, nEQ, ↓reduceIte]) ?_
        rw [← hinv, hstep, if_neg hodd]

theorem rot8_count : ∀ k : Nat, k < 8 → iand .u64 (iconv .u64 (k : Int)) 7 = ((k : Nat) : Int) := by decide +kernel
theorem rot8_sub : ∀ k : Nat, k < 8 → isub .u64 8 ((k : Nat) : Int) = ((8 - k : Nat) : Int) := by decide +kernel
theorem rot8_val (x : UInt8) (k : Nat) (h0 : 0 < k) (h : k < 8) : ior .u8 (ishl .u8 (x.toNat : Int) ((k : Nat) : Int)) (ishr .u8 (x.toNat : Int) ((8 - k : Nat) : Int)) = (((Aes.rot x k).toNat : Nat) : Int) := by
  have hx := x.toNat_lt
  have hd : x.toNat / 2 ^ (8 - k) < 256 := Nat.lt_of_le_of_lt (Nat.div_le_self _ _) hx
  rw [ishl_u rfl, ishr_u]
  simp only [IntKind.bits]
  rw [Nat.min_eq_left (by omega), Nat.min_eq_left (by omega)]
  have e := ior_u (k := .u8) rfl (x.toNat * 2 ^ k % 2 ^ 8) (x.toNat / 2 ^ (8 - k)) (Nat.mod_lt _ (by decide)) hd
  rw [e]
  rw [Aes.rot, UInt8.toNat_or, UInt8.toNat_ofNat', UInt8.toNat_ofNat', Nat.mod_eq_of_lt hd]

set_option maxHeartbeats 1000000 in
theorem rotl8_calls (x : UInt8) (k : Nat) (h0 : 0 < k) (h : k < 8) (s : AS) :
    ACalls Tryd.prog Γ 130 [bV x, .v (.int .i64 (k : Int))] s (fun r s' => r = bV (Aes.rot x k) ∧ s' = s) := by
  refine acalls_body Tryd.func130 rfl Tryd.ntmps130 Tryd.results130 (by simp) ?_
  refine awp_reg_seq ?_
  intro K hK
  simp only [↓DN, UP, DF, qSh, qCv, qIA, qIx, qSl, qBu, qCe, qOn, reduceCtorEq, ↓reduceIte, nLT, nLE, nEQ, nAdd, nMul, nPow, nSub, zLT, zLE, zNat, RAes2130]
  refine hK _ _ ?_
  clear hK K
  refine awp_reg_seq ?_
  intro K hK
  simp only [↓DN, UP, DF, qSh, qCv, qIA, qIx, qSl, qBu, qCe, qOn, reduceCtorEq, ↓reduceIte, nLT, nLE, nEQ, nAdd, nMul, nPow, nSub, zLT, zLE, zNat, RAes2130, rot8_count k h]
  refine hK _ _ ?_
  clear hK K
  refine awp_reg_seq ?_
  intro K hK
  simp only [↓DN, UP, DF, qSh, qCv, qIA, qIx, qSl, qBu, qCe, qOn, reduceCtorEq, ↓reduceIte, nLT, nLE, nEQ, nAdd, nMul, nPow, nSub, zLT, zLE, zNat, RAes2130, nat_not_neg, rot8_sub k h, rot8_val x k h0 h]
  refine hK _ _ ?_
  clear hK K
  refine awp_ret ?_
  simp only [retQ, AEnds, aresL, ares, List.toList_toArray, ↓upd_same]; try simp only [↓DN, UP, DF, qSh, qCv, qIA, qIx, qSl, qBu, qCe, qOn, reduceCtorEq, ↓reduceIte, nLT, nLE, nEQ, nAdd, nMul, nPow, nSub, zLT, zLE, zNat, RAes2130, DT]
  exact ⟨_, s, AV.weak.refl _, AS.le.refl s, rfl, rfl⟩

set_option maxHeartbeats 1000000 in
theorem aesBox_calls (x : UInt8) (s : AS) : ACalls Tryd.prog Γ 126 [bV x] s (fun r s' => r = bV (Aes.box x) ∧ s' = s) := by
  refine acalls_body Tryd.func126 rfl Tryd.ntmps126 Tryd.results126 (by simp) ?_
  have hbox : Aes.box x = Aes.boxP (Aes.inv x) 4 := rfl
  have hi := fun s => inverse_calls (Γ := Γ) x s
  rw [hbox]
  generalize Aes.inv x = y at *
  refine awp_reg_seq ?_
  intro K hK
  simp only [↓DN, UP, DF, qSh, qCv, qIA, qIx, qSl, qBu, qCe, qOn, reduceCtorEq, ↓reduceIte, nLT, nLE, nEQ, nAdd, nMul, nPow, nSub, zLT, zLE, zNat, RAes2126]
  refine hK _ _ ?_
  clear hK K
  refine awp_reg_seq ?_
  intro K hK
  simp only [↓DN, UP, DF, qSh, qCv, qIA, qIx, qSl, qBu, qCe, qOn, reduceCtorEq, ↓reduceIte, nLT, nLE, nEQ, nAdd, nMul, nPow, nSub, zLT, zLE, zNat, RAes2126]
  refine acallk (hi _) ?_
  rintro r s1 ⟨rfl, rfl⟩
  simp only [↓AXq_nil, ↓AXq_cons, pval, DX, Nat.reduceBEq, ↓DN, UP, DF, qSh, qCv, qIA, qIx, qSl, qBu, qCe, qOn, reduceCtorEq, ↓reduceIte, nLT, nLE, nEQ, nAdd, nMul, nPow, nSub, zLT, zLE, zNat, RAes2126]
  refine hK _ _ ?_
  clear hK K
  refine awp_reg_seq ?_
  intro K hK
  simp only [↓DN, UP, DF, qSh, qCv, qIA, qIx, qSl, qBu, qCe, qOn, reduceCtorEq, ↓reduceIte, nLT, nLE, nEQ, nAdd, nMul, nPow, nSub, zLT, zLE, zNat, RAes2126, b_xor99]
  refine hK _ _ ?_
  clear hK K
  refine awp_seq_k ?_
  intro K hK
  refine awp_reg_seq ?_
  intro K hK
  simp only [↓DN, UP, DF, qSh, qCv, qIA, qIx, qSl, qBu, qCe, qOn, reduceCtorEq, ↓reduceIte, nLT, nLE, nEQ, nAdd, nMul, nPow, nSub, zLT, zLE, zNat, RAes2126]
  refine hK _ _ ?_
  clear hK K
  refine awp_block ?_
  refine awp_loop (fun E s2 => ∃ i : Nat, i ≤ 4 ∧ E 3 = bV y ∧ E 4 = bV (Aes.boxP y i) ∧ E 5 = .v (.int .i64 ((i + 1 : Nat) : Int)) ∧ s2 = s1)
    (fun E _ => match E 5 with | .v (.int _ i) => 5 - i.toNat | _ => 0) ?_ ?_
  · exact ⟨0, by omega, by simp only [upd, nEQ, ↓reduceIte], by simp only [upd, nEQ, ↓reduceIte]; rfl, by simp only [upd, ↓reduceIte]; rfl, rfl⟩
  · rintro E1 s2 ⟨i, hi', h3, h4, h5, rfl⟩ -
    refine awp_seq_k ?_
    intro K2 hK2
    by_cases hn : i < 4
    · refine awp_reg_seq ?_
      intro K hK
      simp only [↓DN, UP, DF, qSh, qCv, qIA, qIx, qSl, qBu, qCe, qOn, reduceCtorEq, ↓reduceIte, nLT, nLE, nEQ, nAdd, nMul, nPow, nSub, zLT, zLE, zNat, RAes2126, h5, decide_eq_true (show ((i + 1 : Nat) : Int) < 5 by omega)]
      refine hK _ _ ?_
      clear hK K
      refine awp_cond_k ?_
      intro X Y hX hY
      simp only [↓DN, UP, DF, qSh, qCv, qIA, qIx, qSl, qBu, qCe, qOn, reduceCtorEq, ↓reduceIte, nLT, nLE, nEQ, nAdd, nMul, nPow, nSub, zLT, zLE, zNat, RAes2126, DB]
      refine hX ?_
      clear hX hY X Y
      refine awp_skip ?_
      refine hK2 _ _ ?_
      clear hK2 K2
      refine awp_seq_k ?_
      intro K3 hK3
      refine awp_block ?_
      have hnext : Aes.boxP y (i + 1) = Aes.boxP y i ^^^ Aes.rot y (i + 1) := rfl
      generalize Aes.boxP y i = o at *
      refine awp_reg_end ?_
      intro K hK
      simp only [↓DN, UP, DF, qSh, qCv, qIA, qIx, qSl, qBu, qCe, qOn, reduceCtorEq, ↓reduceIte, nLT, nLE, nEQ, nAdd, nMul, nPow, nSub, zLT, zLE, zNat, RAes2126, h3, h4, h5]
      refine acallk (rotl8_calls y (i + 1) (by omega) (by omega) _) ?_
      rintro r s3 ⟨rfl, rfl⟩
      simp only [↓AXq_nil, ↓AXq_cons, pval, DX, Nat.reduceBEq, ↓DN, UP, DF, qSh, qCv, qIA, qIx, qSl, qBu, qCe, qOn, reduceCtorEq, ↓reduceIte, nLT, nLE, nEQ, nAdd, nMul, nPow, nSub, zLT, zLE, zNat, RAes2126, h3, h4, h5, b_xor]
      refine hK _ _ ?_
      clear hK K
      simp only [blockQ, thenQ, if_true, if_false]
      refine hK3 _ _ ?_
      clear hK3 K3
      refine awp_reg_end ?_
      intro K hK
      simp only [↓DN, UP, DF, qSh, qCv, qIA, qIx, qSl, qBu, qCe, qOn, reduceCtorEq, ↓reduceIte, nLT, nLE, nEQ, nAdd, nMul, nPow, nSub, zLT, zLE, zNat, RAes2126, h5, w_succ (i + 1) (by omega)]
      refine hK _ _ ?_
      clear hK K
      refine ⟨⟨i + 1, by omega, by simp only [upd, h3, nEQ, ↓reduceIte], by simp only [upd, nEQ, ↓reduceIte, hnext], by simp only [upd, ↓reduceIte], rfl⟩, ?_⟩
      simp only [h5, upd, ↓reduceIte]
      omega
    · obtain rfl : i = 4 := by omega
      refine awp_reg_seq ?_
      intro K hK
      simp only [↓DN, UP, DF, qSh, qCv, qIA, qIx, qSl, qBu, qCe, qOn, reduceCtorEq, ↓reduceIte, nLT, nLE, nEQ, nAdd, nMul, nPow, nSub, zLT, zLE, zNat, RAes2126, h5, decide_eq_false (show ¬ ((4 + 1 : Nat) : Int) < 5 by decide)]
      refine hK _ _ ?_
      clear hK K
      refine awp_cond_k ?_
      intro X Y hX hY
      simp only [↓DN, UP, DF, qSh, qCv, qIA, qIx, qSl, qBu, qCe, qOn, reduceCtorEq, ↓reduceIte, nLT, nLE, nEQ, nAdd, nMul, nPow, nSub, zLT, zLE, zNat, RAes2126, DB]
      refine hY ?_
      clear hX hY X Y
      refine awp_exit ?_
      simp only [thenQ, blockQ, if_true]
      refine hK _ _ ?_
      clear hK hK2 K K2
      refine awp_reg_seq ?_
      intro K hK
      simp only [↓DN, UP, DF, qSh, qCv, qIA, qIx, qSl, qBu, qCe, qOn, reduceCtorEq, ↓reduceIte, nLT, nLE, nEQ, nAdd, nMul, nPow, nSub, zLT, zLE, zNat, RAes2126, h4]
      refine hK _ _ ?_
      clear hK K
      refine awp_ret ?_
      simp only [retQ, AEnds, aresL, ares, List.toList_toArray, ↓upd_same]; try simp only [↓DN, UP, DF, qSh, qCv, qIA, qIx, qSl, qBu, qCe, qOn, reduceCtorEq, ↓reduceIte, nLT, nLE, nEQ, nAdd, nMul, nPow, nSub, zLT, zLE, zNat, RAes2126, DT]
      exact ⟨_, _, AV.weak.refl _, AS.le.refl _, rfl, rfl⟩

end Go.Proofs.YtooeklnbdgoneaaDoor


set_option autoImplicit false
namespace Go.Proofs.YtooeklnbdgoneaaDoor
open Go Go.AM Go.Proofs

theorem RAes3119 : type_of% (And.intro (And.intro (And.intro (And.intro @Tryd.underlying3 (And.intro T.c3 T.g3)) (And.intro (And.intro T.b3 T.z3) (And.intro @Tryd.underlying5 T.c5))) (And.intro (And.intro (And.intro T.g5 T.b5) (And.intro T.z5 @Tryd.underlying147)) (And.intro (And.intro T.c147 T.g147) (And.intro T.b147 T.k126)))) Tryd.ntmps119) :=
  (And.intro (And.intro (And.intro (And.intro @Tryd.underlying3 (And.intro T.c3 T.g3)) (And.intro (And.intro T.b3 T.z3) (And.intro @Tryd.underlying5 T.c5))) (And.intro (And.intro (And.intro T.g5 T.b5) (And.intro T.z5 @Tryd.underlying147)) (And.intro (And.intro T.c147 T.g147) (And.intro T.b147 T.k126)))) Tryd.ntmps119)

variable {Γ : Nat → List AV}

/-- A row of octets, the first i of them new. -/
def fillG (F G : Nat → UInt8) (N i : Nat) : List AV := (List.range N).map fun n => byteV (if n < i then F n else G n)
theorem fillG_len (F G : Nat → UInt8) (N i : Nat) : (fillG F G N i).length = N := by simp [fillG]
theorem fillG_set (F G : Nat → UInt8) (N i : Nat) (x : UInt8) (hx : x = F i) : (fillG F G N i).set i (bV x) = fillG F G N (i + 1) := by
  subst hx
  apply List.ext_getElem?
  intro k
  by_cases e : k = i
  · subst e
    by_cases hk : k < N
    · rw [List.getElem?_set_self (by rw [fillG_len]; exact hk)]
      simp [fillG, hk, byteV]
    · rw [List.getElem?_eq_none (by simp [fillG]; omega), List.getElem?_eq_none (by simp [fillG]; omega)]
  · rw [List.getElem?_set_ne (by omega)]
    by_cases hk : k < N
    · simp only [fillG, List.getElem?_map, List.getElem?_range hk, Option.map_some]
      by_cases h2 : k < i
      · rw [if_pos h2, if_pos (by omega)]
      · rw [if_neg h2, if_neg (by omega)]
    · rw [List.getElem?_eq_none (by simp [fillG]; omega), List.getElem?_eq_none (by simp [fillG]; omega)]
theorem fillG_full (F G : Nat → UInt8) (N : Nat) : fillG F G N N = ((List.range N).map F).map byteV := by
  rw [fillG, List.map_map]
  apply List.map_congr_left
  intro n hn
  rw [if_pos (List.mem_range.1 hn)]
  rfl
theorem fillG_none (F G : Nat → UInt8) (N : Nat) : fillG F G N 0 = ((List.range N).map G).map byteV := by
  rw [fillG, List.map_map]
  apply List.map_congr_left
  intro n hn
  rw [if_neg (by omega)]
  rfl
theorem fillG_nought (F : Nat → UInt8) (N : Nat) : fillG F (fun _ => 0) N 0 = List.replicate N (bV 0) := by
  rw [fillG_none]
  apply List.ext_getElem
  · simp
  · intro k h1 h2
    simp [byteV]
theorem range_list {l : List UInt8} {N : Nat} (h : l.length = N) : (List.range N).map (fun n => l.getD n 0) = l := by
  apply List.ext_getElem
  · simp [h]
  · intro k h1 h2
    simp [List.getElem?_eq_getElem h2]
theorem fillG_drop (F G : Nat → UInt8) (N i j : Nat) (hj : j < N) : List.drop j (fillG F G N i) = byteV (if j < i then F j else G j) :: List.drop (j + 1) (fillG F G N i) := by
  apply drop_cons
  simp [fillG, hj]
theorem bytes_drop {l : List UInt8} (j : Nat) (h : j < l.length) : List.drop j (l.map byteV) = byteV (l.getD j 0) :: List.drop (j + 1) (l.map byteV) := by
  apply drop_cons
  simp [List.getElem?_eq_getElem h]
theorem all_bytes (l : List UInt8) : (l.map byteV).all AV.one = true := all_one_map l
theorem b_conv (n : Nat) : iconv .u8 (n : Int) = (((UInt8.ofNat n).toNat : Nat) : Int) := by
  have := iconv_u8 n
  simp only [byteV, AV.v.injEq, Value.int.injEq, true_and] at this
  exact this.symm
theorem z165 : zcells Tryd.prog 147 = some (List.replicate 256 (bV 0)) := by kernel_rfl
theorem z157 : zcells Tryd.prog 138 = some (List.replicate 16 (bV 0)) := by kernel_rfl
theorem sb_range : (List.range 256).map (fun n => Aes.sb.getD n 0) = Aes.sb := range_list Aes.sb_len

set_option maxHeartbeats 2000000 in
set_option maxRecDepth 100000 in
theorem boxes_calls (s : AS) : ACalls Tryd.prog Γ 119 [] s (fun r s' => r = .agg (Aes.sb.map byteV) ∧ s' = s) := by
  refine acalls_body Tryd.func119 rfl Tryd.ntmps119 Tryd.results119 (by simp) ?_
  refine awp_reg_seq ?_
  intro K hK
  simp only [↓DN, UP, DF, qSh, qCv, qIA, qIx, qSl, qBu, qCe, qOn, reduceCtorEq, ↓reduceIte, nLT, nLE, nEQ, nAdd, nMul, nPow, nSub, zLT, zLE, zNat, RAes3119, z165]
  intro o0 ho0
  refine hK _ _ ?_
  clear hK K
  refine awp_reg_seq ?_
  intro K hK
  simp only [↓DN, UP, DF, qSh, qCv, qIA, qIx, qSl, qBu, qCe, qOn, reduceCtorEq, ↓reduceIte, nLT, nLE, nEQ, nAdd, nMul, nPow, nSub, zLT, zLE, zNat, RAes3119, z165]
  intro o1 ho1
  obtain ⟨h10, ho1'⟩ := AS.fresh_set ho1
  refine hK _ _ ?_
  clear hK K
  refine awp_seq_k ?_
  intro K hK
  refine awp_reg_seq ?_
  intro K hK
  simp only [↓DN, UP, DF, qSh, qCv, qIA, qIx, qSl, qBu, qCe, qOn, reduceCtorEq, ↓reduceIte, nLT, nLE, nEQ, nAdd, nMul, nPow, nSub, zLT, zLE, zNat, RAes3119]
  refine hK _ _ ?_
  clear hK K
  refine awp_block ?_
  rw [← fillG_nought (fun n => Aes.sb.getD n 0) 256]
  have hl0 := fillG_len (fun n => Aes.sb.getD n 0) (fun _ => 0) 256 0
  refine awp_loop (fun E s1 => ∃ i : Nat, i ≤ 256 ∧ E 0 = .ptr o0 0 ∧ E 1 = .ptr o1 0 ∧ E 3 = .v (.int .i64 i) ∧ s1 = (s.set o0 (fillG (fun n => Aes.sb.getD n 0) (fun _ => 0) 256 0)).set o1 (fillG (fun n => Aes.sb.getD n 0) (fun _ => 0) 256 i))
    (fun E _ => match E 3 with | .v (.int _ i) => 256 - i.toNat | _ => 0) ?_ ?_
  · exact ⟨0, by omega, by simp only [upd, nEQ, ↓reduceIte], by simp only [upd, nEQ, ↓reduceIte], by simp only [upd, ↓reduceIte]; rfl, rfl⟩
  · rintro E1 s1 ⟨i, hi, e0, e1, e3, rfl⟩ -
    by_cases hi' : i < 256
    · have hi2 : (i : Int) < 256 := by omega
      have hi3 : (i : Int) < ((256 : Nat) : Int) := by omega
      have hi0 : (0 : Int) ≤ (i : Int) := by omega
      refine awp_reg_seq ?_
      intro K hK
      simp only [↓DN, UP, DF, qSh, qCv, qIA, qIx, qSl, qBu, qCe, qOn, reduceCtorEq, ↓reduceIte, nLT, nLE, nEQ, nAdd, nMul, nPow, nSub, zLT, zLE, zNat, RAes3119, e3, decide_eq_true hi2]
      refine hK _ _ ?_
      clear hK K
      refine awp_seq_k ?_
      intro K2 hK2
      refine awp_cond_k ?_
      intro X Y hX hY
      simp only [↓DN, UP, DF, qSh, qCv, qIA, qIx, qSl, qBu, qCe, qOn, reduceCtorEq, ↓reduceIte, nLT, nLE, nEQ, nAdd, nMul, nPow, nSub, zLT, zLE, zNat, RAes3119, DB]
      refine hX ?_
      clear hX hY X Y
      refine awp_skip ?_
      refine hK2 _ _ ?_
      clear hK2 K2
      refine awp_seq_k ?_
      intro K3 hK3
      refine awp_block ?_
      refine awp_reg_seq ?_
      intro K hK
      simp only [↓DN, UP, DF, qSh, qCv, qIA, qIx, qSl, qBu, qCe, qOn, reduceCtorEq, ↓reduceIte, nLT, nLE, nEQ, nAdd, nMul, nPow, nSub, zLT, zLE, zNat, RAes3119, e3]
      refine hK _ _ ?_
      clear hK K
      have hset := fillG_set (fun n => Aes.sb.getD n 0) (fun _ => 0) 256 i (Aes.box (UInt8.ofNat i)) (Aes.sb_box i hi')
      have hlen := fillG_len (fun n => Aes.sb.getD n 0) (fun _ => 0) 256 i
      generalize fillG (fun n => Aes.sb.getD n 0) (fun _ => 0) 256 i = R at *
      generalize hR' : fillG (fun n => Aes.sb.getD n 0) (fun _ => 0) 256 (i + 1) = R' at *
      refine awp_reg_end ?_
      intro K hK
      simp only [↓DN, UP, DF, qSh, qCv, qIA, qIx, qSl, qBu, qCe, qOn, reduceCtorEq, ↓reduceIte, nLT, nLE, nEQ, nAdd, nMul, nPow, nSub, zLT, zLE, zNat, RAes3119, e1, b_conv]
      refine acallk (aesBox_calls (UInt8.ofNat i) _) ?_
      rintro r s2 ⟨rfl, rfl⟩
      simp only [↓AXq_nil, ↓AXq_cons, pval, DX, Nat.reduceBEq, ↓DN, UP, DF, qSh, qCv, qIA, qIx, qSl, qBu, qCe, qOn, reduceCtorEq, ↓reduceIte, nLT, nLE, nEQ, nAdd, nMul, nPow, nSub, zLT, zLE, zNat, RAes3119, e1, hi0, hi2, hi3, hset, hlen]
      refine ⟨by omega, hK _ _ ?_⟩
      clear hK K
      simp only [blockQ, thenQ, if_true, if_false]
      refine hK3 _ _ ?_
      clear hK3 K3
      refine awp_reg_end ?_
      intro K hK
      simp only [↓DN, UP, DF, qSh, qCv, qIA, qIx, qSl, qBu, qCe, qOn, reduceCtorEq, ↓reduceIte, nLT, nLE, nEQ, nAdd, nMul, nPow, nSub, zLT, zLE, zNat, RAes3119, e3, w_succ i (by omega)]
      refine hK _ _ ?_
      clear hK K
      refine ⟨⟨i + 1, by omega, by simp only [upd, e0, nEQ, ↓reduceIte], by simp only [upd, e1, nEQ, ↓reduceIte], by simp only [upd, ↓reduceIte], by rw [hR']⟩, ?_⟩
      simp only [e3, upd, ↓reduceIte]
      omega
    · have hi2 : ¬ (i : Int) < 256 := by omega
      obtain rfl : i = 256 := by omega
      refine awp_reg_seq ?_
      intro K hK
      simp only [↓DN, UP, DF, qSh, qCv, qIA, qIx, qSl, qBu, qCe, qOn, reduceCtorEq, ↓reduceIte, nLT, nLE, nEQ, nAdd, nMul, nPow, nSub, zLT, zLE, zNat, RAes3119, e3, decide_eq_false hi2]
      refine hK _ _ ?_
      clear hK K
      refine awp_seq_k ?_
      intro K2 hK2
      refine awp_cond_k ?_
      intro X Y hX hY
      simp only [↓DN, UP, DF, qSh, qCv, qIA, qIx, qSl, qBu, qCe, qOn, reduceCtorEq, ↓reduceIte, nLT, nLE, nEQ, nAdd, nMul, nPow, nSub, zLT, zLE, zNat, RAes3119, DB]
      refine hY ?_
      clear hX hY X Y
      refine awp_exit ?_
      simp only [thenQ, blockQ, if_true]
      clear hK2 K2
      refine hK _ _ ?_
      clear hK K
      rw [fillG_full, sb_range]
      have hwl : (Aes.sb.map byteV).length = 256 := by rw [List.length_map, Aes.sb_len]
      have hall := all_bytes Aes.sb
      have htk : List.take 256 (Aes.sb.map byteV) = Aes.sb.map byteV := List.take_of_length_le (by omega)
      generalize Aes.sb.map byteV = X at *
      generalize fillG (fun n => Aes.sb.getD n 0) (fun _ => 0) 256 0 = R0 at *
      refine awp_reg_seq ?_
      intro K hK
      simp only [↓DN, UP, DF, qSh, qCv, qIA, qIx, qSl, qBu, qCe, qOn, reduceCtorEq, ↓reduceIte, nLT, nLE, nEQ, nAdd, nMul, nPow, nSub, zLT, zLE, zNat, RAes3119, e0, e1, hwl, htk, hall, h10, h10.symm]
      rw [asetAll_whole R0 X (by omega)]
      refine ⟨by omega, hK _ _ ?_⟩
      clear hK K
      refine awp_ret ?_
      refine aends_cell (v := .agg X) (o := o0) (off := 0) (by simp only [upd, e0, nEQ, ↓reduceIte]) (AS.set_objs_same _ _ _) (by rw [T.c147]; decide) (by simp only [↓DN, UP, DF, qSh, qCv, qIA, qIx, qSl, qBu, qCe, qOn, reduceCtorEq, ↓reduceIte, nLT, nLE, nEQ, nAdd, nMul, nPow, nSub, zLT, zLE, zNat, RAes3119, hwl, htk]) ?_
      exact ⟨_, s, AV.weak.refl _, AS.le_set (AS.le_set (AS.le_set (AS.le.refl s) ho0 _) ho1' _) ho0 _, rfl, rfl⟩

end Go.Proofs.YtooeklnbdgoneaaDoor


set_option autoImplicit false
namespace Go.Proofs.YtooeklnbdgoneaaDoor
open Go Go.AM Go.Proofs

theorem RAes4121 : type_of% (And.intro (And.intro (And.intro (And.intro @Tryd.underlying3 (And.intro T.c3 T.g3)) (And.intro (And.intro T.b3 T.z3) (And.intro @Tryd.underlying5 T.c5))) (And.intro (And.intro (And.intro T.g5 T.b5) (And.intro T.z5 @Tryd.underlying138)) (And.intro (And.intro T.c138 T.g138) (And.intro T.b138 T.z138)))) Tryd.ntmps121) :=
  (And.intro (And.intro (And.intro (And.intro @Tryd.underlying3 (And.intro T.c3 T.g3)) (And.intro (And.intro T.b3 T.z3) (And.intro @Tryd.underlying5 T.c5))) (And.intro (And.intro (And.intro T.g5 T.b5) (And.intro T.z5 @Tryd.underlying138)) (And.intro (And.intro T.c138 T.g138) (And.intro T.b138 T.z138)))) Tryd.ntmps121)

variable {Γ : Nat → List AV}

theorem rem4 (a : Nat) : irem (a : Int) 4 = ((a % 4 : Nat) : Int) := irem_u a 4
theorem add_const (a c : Nat) (h : a < 1000) (hc : c < 1000) : iadd .i64 (a : Int) ((c : Nat) : Int) = ((a + c : Nat) : Int) := by
  rw [iadd_i64 (by omega)]
  rfl
theorem add_c1 (a : Nat) (h : a < 1000) : iadd .i64 (a : Int) 1 = ((a + 1 : Nat) : Int) := add_const a 1 h (by omega)
theorem add_c2 (a : Nat) (h : a < 1000) : iadd .i64 (a : Int) 2 = ((a + 2 : Nat) : Int) := add_const a 2 h (by omega)
theorem add_c3 (a : Nat) (h : a < 1000) : iadd .i64 (a : Int) 3 = ((a + 3 : Nat) : Int) := add_const a 3 h (by omega)

theorem fresh_two {s : AS} {o p q : Nat} {x y : List AV} (h : (if q = p then some x else if q = o then some y else s.objs q) = none) : q ≠ p ∧ q ≠ o ∧ s.objs q = none := by
  by_cases h1 : q = p
  · rw [if_pos h1] at h; cases h
  · rw [if_neg h1] at h
    by_cases h2 : q = o
    · rw [if_pos h2] at h; cases h
    · rw [if_neg h2] at h; exact ⟨h1, h2, h⟩

set_option maxHeartbeats 4000000 in
set_option maxRecDepth 100000 in
theorem aesAdd_calls (b k : List UInt8) (hb : b.length = 16) (hk : k.length = 16) (s : AS) :
    ACalls Tryd.prog Γ 121 [.agg (b.map byteV), .agg (k.map byteV)] s (fun r s' => r = .agg ((Aes.add b k).map byteV) ∧ s' = s) := by
  refine acalls_body Tryd.func121 rfl Tryd.ntmps121 Tryd.results121 (by simp) ?_
  have hF : (List.range 16).map (fun n => b.getD n 0 ^^^ k.getD n 0) = Aes.add b k := rfl
  have hR0 : fillG (fun n => b.getD n 0 ^^^ k.getD n 0) (fun n => b.getD n 0) 16 0 = b.map byteV := by rw [fillG_none, range_list hb]
  have hkl : (k.map byteV).length = 16 := by rw [List.length_map, hk]
  refine awp_reg_seq ?_
  intro K hK
  simp only [↓DN, UP, DF, qSh, qCv, qIA, qIx, qSl, qBu, qCe, qOn, reduceCtorEq, ↓reduceIte, nLT, nLE, nEQ, nAdd, nMul, nPow, nSub, zLT, zLE, zNat, RAes4121, z157]
  intro o2 ho2 o3 ho3
  obtain ⟨h32, ho3'⟩ := AS.fresh_set ho3
  intro o4 ho4
  obtain ⟨h43, h42, ho4'⟩ := fresh_two ho4
  rw [show ([AV.v (.int .u8 0), AV.v (.int .u8 0), AV.v (.int .u8 0), AV.v (.int .u8 0), AV.v (.int .u8 0), AV.v (.int .u8 0), AV.v (.int .u8 0), AV.v (.int .u8 0), AV.v (.int .u8 0), AV.v (.int .u8 0), AV.v (.int .u8 0), AV.v (.int .u8 0), AV.v (.int .u8 0), AV.v (.int .u8 0), AV.v (.int .u8 0), AV.v (.int .u8 0)] : List AV) = List.replicate 16 (bV 0) from rfl]
  refine hK _ _ ?_
  clear hK K
  rw [← hR0]
  have j2 : (((s.set o2 (fillG (fun n => b.getD n 0 ^^^ k.getD n 0) (fun n => b.getD n 0) 16 0)).set o3 (k.map byteV)).set o4 (List.replicate 16 (bV 0))).objs o2 = some (fillG (fun n => b.getD n 0 ^^^ k.getD n 0) (fun n => b.getD n 0) 16 0) := by
    rw [AS.set_objs_ne _ h42.symm, AS.set_objs_ne _ h32.symm, AS.set_objs_same]
  have j3 : (((s.set o2 (fillG (fun n => b.getD n 0 ^^^ k.getD n 0) (fun n => b.getD n 0) 16 0)).set o3 (k.map byteV)).set o4 (List.replicate 16 (bV 0))).objs o3 = some (k.map byteV) := by
    rw [AS.set_objs_ne _ h43.symm, AS.set_objs_same]
  have j4 : (((s.set o2 (fillG (fun n => b.getD n 0 ^^^ k.getD n 0) (fun n => b.getD n 0) 16 0)).set o3 (k.map byteV)).set o4 (List.replicate 16 (bV 0))).objs o4 = some (List.replicate 16 (bV 0)) := AS.set_objs_same _ _ _
  have hle : s.le (((s.set o2 (fillG (fun n => b.getD n 0 ^^^ k.getD n 0) (fun n => b.getD n 0) 16 0)).set o3 (k.map byteV)).set o4 (List.replicate 16 (bV 0))) := AS.le_set (AS.le_set (AS.le_set (AS.le.refl s) ho2 _) ho3' _) ho4' _
  generalize (((s.set o2 (fillG (fun n => b.getD n 0 ^^^ k.getD n 0) (fun n => b.getD n 0) 16 0)).set o3 (k.map byteV)).set o4 (List.replicate 16 (bV 0))) = s0 at *
  clear ho3 ho4 hR0
  have hzl : (List.replicate 16 (bV 0)).length = 16 := by simp
  generalize List.replicate 16 (bV 0) = Z at *
  refine awp_seq_k ?_
  intro K hK
  refine awp_reg_seq ?_
  intro K hK
  simp only [↓DN, UP, DF, qSh, qCv, qIA, qIx, qSl, qBu, qCe, qOn, reduceCtorEq, ↓reduceIte, nLT, nLE, nEQ, nAdd, nMul, nPow, nSub, zLT, zLE, zNat, RAes4121]
  refine hK _ _ ?_
  clear hK K
  refine awp_block ?_
  refine awp_loop (fun E s1 => ∃ i : Nat, i ≤ 16 ∧ E 2 = .ptr o2 0 ∧ E 3 = .ptr o3 0 ∧ E 4 = .ptr o4 0 ∧ E 6 = .v (.int .i64 i) ∧ s1.objs o2 = some (fillG (fun n => b.getD n 0 ^^^ k.getD n 0) (fun n => b.getD n 0) 16 i) ∧ s1.objs o3 = some (k.map byteV) ∧ s1.objs o4 = some Z ∧ s.le s1)
    (fun E _ => match E 6 with | .v (.int _ i) => 16 - i.toNat | _ => 0) ?_ ?_
  · exact ⟨0, by omega, by simp only [upd, nEQ, ↓reduceIte], by simp only [upd, nEQ, ↓reduceIte], by simp only [upd, nEQ, ↓reduceIte], by simp only [upd, ↓reduceIte]; rfl, j2, j3, j4, hle⟩
  · clear j2 j3 j4 hle
    rintro E1 s1 ⟨i, hi, e2, e3, e4, e6, j2, j3, j4, hle⟩ -
    by_cases hi' : i < 16
    · have hi2 : (i : Int) < 16 := by omega
      have hi3 : (i : Int) < ((16 : Nat) : Int) := by omega
      have hi0 : (0 : Int) ≤ (i : Int) := by omega
      refine awp_reg_seq ?_
      intro K hK
      simp only [↓DN, UP, DF, qSh, qCv, qIA, qIx, qSl, qBu, qCe, qOn, reduceCtorEq, ↓reduceIte, nLT, nLE, nEQ, nAdd, nMul, nPow, nSub, zLT, zLE, zNat, RAes4121, e6, decide_eq_true hi2]
      refine hK _ _ ?_
      clear hK K
      refine awp_seq_k ?_
      intro K2 hK2
      refine awp_cond_k ?_
      intro X Y hX hY
      simp only [↓DN, UP, DF, qSh, qCv, qIA, qIx, qSl, qBu, qCe, qOn, reduceCtorEq, ↓reduceIte, nLT, nLE, nEQ, nAdd, nMul, nPow, nSub, zLT, zLE, zNat, RAes4121, DB]
      refine hX ?_
      clear hX hY X Y
      refine awp_skip ?_
      refine hK2 _ _ ?_
      clear hK2 K2
      refine awp_seq_k ?_
      intro K3 hK3
      refine awp_block ?_
      refine awp_reg_seq ?_
      intro K hK
      simp only [↓DN, UP, DF, qSh, qCv, qIA, qIx, qSl, qBu, qCe, qOn, reduceCtorEq, ↓reduceIte, nLT, nLE, nEQ, nAdd, nMul, nPow, nSub, zLT, zLE, zNat, RAes4121, e6]
      refine hK _ _ ?_
      clear hK K
      have d2 := fillG_drop (fun n => b.getD n 0 ^^^ k.getD n 0) (fun n => b.getD n 0) 16 i i hi'
      rw [if_neg (Nat.lt_irrefl i)] at d2
      have d3 := bytes_drop (l := k) i (by omega)
      have hset := fillG_set (fun n => b.getD n 0 ^^^ k.getD n 0) (fun n => b.getD n 0) 16 i _ rfl
      have hlen := fillG_len (fun n => b.getD n 0 ^^^ k.getD n 0) (fun n => b.getD n 0) 16 i
      generalize hR' : fillG (fun n => b.getD n 0 ^^^ k.getD n 0) (fun n => b.getD n 0) 16 (i + 1) = R' at *
      generalize fillG (fun n => b.getD n 0 ^^^ k.getD n 0) (fun n => b.getD n 0) 16 i = R at *
      generalize b.getD i 0 = x at *
      generalize k.getD i 0 = y at *
      generalize k.map byteV = Y at *
      refine awp_mrk_end T.mixed [(o2, R), (o3, Y)] [] [2, 5] [8] (by kernel_rfl) (by simp only [Pres_cons, Pres_nil, and_true]; simp [AS.set, upd, j2, j3]) ?_
      intro K hK
      simp only [↓AXr_nil, ↓AXr_cons, gval, lval, fzGet_cons, fzGet_nil, Pres_cons, Pres_nil, List.any_cons, List.any_nil, List.contains_cons, List.contains_nil, Nat.reduceBEq, Bool.or_false, Bool.or_true, Bool.or_self, Bool.false_or, ↓DN, UP, DF, qSh, qCv, qIA, qIx, qSl, qBu, qCe, qOn, reduceCtorEq, ↓reduceIte, nLT, nLE, nEQ, nAdd, nMul, nPow, nSub, zLT, zLE, zNat, RAes4121, e2, e3, e6, hi0, hi2, hi3, d2, d3, h32, h32.symm, j2, j3, byteV, b_xor, hset, hlen, hkl]
      refine ⟨by omega, hK _ _ ?_⟩
      clear hK K
      simp only [blockQ, thenQ, if_true, if_false]
      refine hK3 _ _ ?_
      clear hK3 K3
      refine awp_reg_end ?_
      intro K hK
      simp only [↓DN, UP, DF, qSh, qCv, qIA, qIx, qSl, qBu, qCe, qOn, reduceCtorEq, ↓reduceIte, nLT, nLE, nEQ, nAdd, nMul, nPow, nSub, zLT, zLE, zNat, RAes4121, e6, w_succ i (by omega)]
      refine hK _ _ ?_
      clear hK K
      refine ⟨⟨i + 1, by omega, by simp only [upd, e2, nEQ, ↓reduceIte], by simp only [upd, e3, nEQ, ↓reduceIte], by simp only [upd, e4, nEQ, ↓reduceIte], by simp only [upd, ↓reduceIte], by rw [hR']; exact AS.set_objs_same _ _ _, by rw [AS.set_objs_ne _ h32]; exact j3, by rw [AS.set_objs_ne _ h42]; exact j4, AS.le_set hle ho2 _⟩, ?_⟩
      simp only [e6, upd, ↓reduceIte]
      omega
    · have hi2 : ¬ (i : Int) < 16 := by omega
      obtain rfl : i = 16 := by omega
      refine awp_reg_seq ?_
      intro K hK
      simp only [↓DN, UP, DF, qSh, qCv, qIA, qIx, qSl, qBu, qCe, qOn, reduceCtorEq, ↓reduceIte, nLT, nLE, nEQ, nAdd, nMul, nPow, nSub, zLT, zLE, zNat, RAes4121, e6, decide_eq_false hi2]
      refine hK _ _ ?_
      clear hK K
      refine awp_seq_k ?_
      intro K2 hK2
      refine awp_cond_k ?_
      intro X Y hX hY
      simp only [↓DN, UP, DF, qSh, qCv, qIA, qIx, qSl, qBu, qCe, qOn, reduceCtorEq, ↓reduceIte, nLT, nLE, nEQ, nAdd, nMul, nPow, nSub, zLT, zLE, zNat, RAes4121, DB]
      refine hY ?_
      clear hX hY X Y
      refine awp_exit ?_
      simp only [thenQ, blockQ, if_true]
      clear hK2 K2
      refine hK _ _ ?_
      clear hK K
      rw [fillG_full, hF] at j2
      have hwl : ((Aes.add b k).map byteV).length = 16 := by rw [List.length_map, Aes.add_len]
      have hall := all_bytes (Aes.add b k)
      have htk : List.take 16 ((Aes.add b k).map byteV) = (Aes.add b k).map byteV := List.take_of_length_le (by omega)
      generalize (Aes.add b k).map byteV = X at *
      refine awp_reg_seq ?_
      intro K hK
      simp only [↓DN, UP, DF, qSh, qCv, qIA, qIx, qSl, qBu, qCe, qOn, reduceCtorEq, ↓reduceIte, nLT, nLE, nEQ, nAdd, nMul, nPow, nSub, zLT, zLE, zNat, RAes4121, e2, e4, j2, j4, hwl, htk, hall, h42, h42.symm]
      rw [asetAll_whole Z X (by omega)]
      refine ⟨by omega, hK _ _ ?_⟩
      clear hK K
      refine awp_ret ?_
      refine aends_cell (v := .agg X) (o := o4) (off := 0) (by simp only [upd, e4, nEQ, ↓reduceIte]) (AS.set_objs_same _ _ _) (by rw [T.c138]; decide) (by simp only [↓DN, UP, DF, qSh, qCv, qIA, qIx, qSl, qBu, qCe, qOn, reduceCtorEq, ↓reduceIte, nLT, nLE, nEQ, nAdd, nMul, nPow, nSub, zLT, zLE, zNat, RAes4121, hwl, htk]) ?_
      exact ⟨_, s, AV.weak.refl _, AS.le_set hle ho4' _, rfl, rfl⟩

end Go.Proofs.YtooeklnbdgoneaaDoor


set_option autoImplicit false
namespace Go.Proofs.YtooeklnbdgoneaaDoor
open Go Go.AM Go.Proofs

theorem RAes5128 : type_of% (And.intro (And.intro (And.intro (And.intro (And.intro @Tryd.underlying3 T.c3) (And.intro T.g3 T.b3)) (And.intro (And.intro T.z3 @Tryd.underlying5) (And.intro T.c5 T.g5))) (And.intro (And.intro (And.intro T.b5 T.z5) (And.intro @Tryd.underlying156 T.c156)) (And.intro (And.intro T.g156 T.b156) (And.intro T.z156 T.k127)))) Tryd.ntmps128) :=
  (And.intro (And.intro (And.intro (And.intro (And.intro @Tryd.underlying3 T.c3) (And.intro T.g3 T.b3)) (And.intro (And.intro T.z3 @Tryd.underlying5) (And.intro T.c5 T.g5))) (And.intro (And.intro (And.intro T.b5 T.z5) (And.intro @Tryd.underlying156 T.c156)) (And.intro (And.intro T.g156 T.b156) (And.intro T.z156 T.k127)))) Tryd.ntmps128)

variable {Γ : Nat → List AV}

theorem four_ne : ¬ (4 : Int) = 0 := by decide
/-- A column, mixed. -/
def mixB (c : List UInt8) : List UInt8 := (List.range 4).map fun i => Aes.mx (fun j => c.getD j 0) i
theorem mixB_len (c : List UInt8) : (mixB c).length = 4 := by simp [mixB]

set_option maxHeartbeats 4000000 in
set_option maxRecDepth 100000 in
theorem aesMix_calls (c : List UInt8) (hc : c.length = 4) (s : AS) :
    ACalls Tryd.prog Γ 128 [.agg (c.map byteV)] s (fun r s' => r = .agg ((mixB c).map byteV) ∧ s' = s) := by
  refine acalls_body Tryd.func128 rfl Tryd.ntmps128 Tryd.results128 (by simp) ?_
  have hF : (List.range 4).map (fun i => Aes.mx (fun j => c.getD j 0) i) = mixB c := rfl
  have hcl : (c.map byteV).length = 4 := by rw [List.length_map, hc]
  have hz4 : ([.v (.int .u8 0), .v (.int .u8 0), .v (.int .u8 0), .v (.int .u8 0)] : List AV) = List.replicate 4 (bV 0) := rfl
  refine awp_reg_seq ?_
  intro K hK
  simp only [↓DN, UP, DF, qSh, qCv, qIA, qIx, qSl, qBu, qCe, qOn, reduceCtorEq, ↓reduceIte, nLT, nLE, nEQ, nAdd, nMul, nPow, nSub, zLT, zLE, zNat, RAes5128]
  intro o1 ho1 o2 ho2
  obtain ⟨h21, ho2'⟩ := AS.fresh_set ho2
  rw [hz4]
  refine hK _ _ ?_
  clear hK K
  refine awp_reg_seq ?_
  intro K hK
  simp only [↓DN, UP, DF, qSh, qCv, qIA, qIx, qSl, qBu, qCe, qOn, reduceCtorEq, ↓reduceIte, nLT, nLE, nEQ, nAdd, nMul, nPow, nSub, zLT, zLE, zNat, RAes5128]
  intro o3 ho3
  obtain ⟨h32, h31, ho3'⟩ := fresh_two ho3
  rw [hz4]
  refine hK _ _ ?_
  clear hK K
  generalize hs0 : ((s.set o1 (c.map byteV)).set o2 (List.replicate 4 (bV 0))).set o3 (List.replicate 4 (bV 0)) = s0 at *
  have j1 : s0.objs o1 = some (c.map byteV) := by rw [← hs0, AS.set_objs_ne _ h31.symm, AS.set_objs_ne _ h21.symm, AS.set_objs_same]
  have j2 : s0.objs o2 = some (List.replicate 4 (bV 0)) := by rw [← hs0, AS.set_objs_ne _ h32.symm, AS.set_objs_same]
  have j3 : s0.objs o3 = some (List.replicate 4 (bV 0)) := by rw [← hs0]; exact AS.set_objs_same _ _ _
  have hle : s.le s0 := by rw [← hs0]; exact AS.le_set (AS.le_set (AS.le_set (AS.le.refl s) ho1 _) ho2' _) ho3' _
  clear hs0 ho3 ho2
  have hzl : (List.replicate 4 (bV 0)).length = 4 := by simp
  rw [← fillG_nought (fun i => Aes.mx (fun j => c.getD j 0) i) 4] at j3
  generalize List.replicate 4 (bV 0) = Z at *
  refine awp_seq_k ?_
  intro K hK
  refine awp_reg_seq ?_
  intro K hK
  simp only [↓DN, UP, DF, qSh, qCv, qIA, qIx, qSl, qBu, qCe, qOn, reduceCtorEq, ↓reduceIte, nLT, nLE, nEQ, nAdd, nMul, nPow, nSub, zLT, zLE, zNat, RAes5128]
  refine hK _ _ ?_
  clear hK K
  refine awp_block ?_
  refine awp_loop (fun E s1 => ∃ i : Nat, i ≤ 4 ∧ E 1 = .ptr o1 0 ∧ E 2 = .ptr o2 0 ∧ E 3 = .ptr o3 0 ∧ E 5 = .v (.int .i64 i) ∧ s1.objs o3 = some (fillG (fun i => Aes.mx (fun j => c.getD j 0) i) (fun _ => 0) 4 i) ∧ s1.objs o1 = some (c.map byteV) ∧ s1.objs o2 = some Z ∧ s.le s1)
    (fun E _ => match E 5 with | .v (.int _ i) => 4 - i.toNat | _ => 0) ?_ ?_
  · exact ⟨0, by omega, by simp only [upd, nEQ, ↓reduceIte], by simp only [upd, nEQ, ↓reduceIte], by simp only [upd, nEQ, ↓reduceIte], by simp only [upd, ↓reduceIte]; rfl, j3, j1, j2, hle⟩
  · clear j1 j2 j3 hle
    rintro E1 s1 ⟨i, hi, e1, e2, e3, e5, j3, j1, j2, hle⟩ -
    by_cases hi' : i < 4
    · have hi2 : (i : Int) < 4 := by omega
      have hi3 : (i : Int) < ((4 : Nat) : Int) := by omega
      have hi0 : (0 : Int) ≤ (i : Int) := by omega
      refine awp_reg_seq ?_
      intro K hK
      simp only [↓DN, UP, DF, qSh, qCv, qIA, qIx, qSl, qBu, qCe, qOn, reduceCtorEq, ↓reduceIte, nLT, nLE, nEQ, nAdd, nMul, nPow, nSub, zLT, zLE, zNat, RAes5128, e5, decide_eq_true hi2]
      refine hK _ _ ?_
      clear hK K
      refine awp_seq_k ?_
      intro K2 hK2
      refine awp_cond_k ?_
      intro X Y hX hY
      simp only [↓DN, UP, DF, qSh, qCv, qIA, qIx, qSl, qBu, qCe, qOn, reduceCtorEq, ↓reduceIte, nLT, nLE, nEQ, nAdd, nMul, nPow, nSub, zLT, zLE, zNat, RAes5128, DB]
      refine hX ?_
      clear hX hY X Y
      refine awp_skip ?_
      refine hK2 _ _ ?_
      clear hK2 K2
      refine awp_seq_k ?_
      intro K3 hK3
      refine awp_block ?_
      refine awp_reg_seq ?_
      intro K hK
      simp only [↓DN, UP, DF, qSh, qCv, qIA, qIx, qSl, qBu, qCe, qOn, reduceCtorEq, ↓reduceIte, nLT, nLE, nEQ, nAdd, nMul, nPow, nSub, zLT, zLE, zNat, RAes5128, e5]
      refine hK _ _ ?_
      clear hK K
      have hset := fillG_set (fun i => Aes.mx (fun j => c.getD j 0) i) (fun _ => 0) 4 i _ rfl
      have hlen := fillG_len (fun i => Aes.mx (fun j => c.getD j 0) i) (fun _ => 0) 4 i
      have hmx : Aes.mx (fun j => c.getD j 0) i = (((Aes.dbl (c.getD i 0) ^^^ Aes.dbl (c.getD ((i + 1) % 4) 0)) ^^^ c.getD ((i + 1) % 4) 0) ^^^ c.getD ((i + 2) % 4) 0) ^^^ c.getD ((i + 3) % 4) 0 := rfl
      rw [hmx] at hset
      have d0 := bytes_drop (l := c) i (by omega)
      have d1 := bytes_drop (l := c) ((i + 1) % 4) (by omega)
      have d2 := bytes_drop (l := c) ((i + 2) % 4) (by omega)
      have d3 := bytes_drop (l := c) ((i + 3) % 4) (by omega)
      have k1 : (0 : Int) ≤ (((i + 1) % 4 : Nat) : Int) := by omega
      have k2 : (0 : Int) ≤ (((i + 2) % 4 : Nat) : Int) := by omega
      have k3 : (0 : Int) ≤ (((i + 3) % 4 : Nat) : Int) := by omega
      have m1 : (((i + 1) % 4 : Nat) : Int) < ((4 : Nat) : Int) := by omega
      have m2 : (((i + 2) % 4 : Nat) : Int) < ((4 : Nat) : Int) := by omega
      have m3 : (((i + 3) % 4 : Nat) : Int) < ((4 : Nat) : Int) := by omega
      clear hmx
      generalize hR' : fillG (fun i => Aes.mx (fun j => c.getD j 0) i) (fun _ => 0) 4 (i + 1) = R' at *
      generalize fillG (fun i => Aes.mx (fun j => c.getD j 0) i) (fun _ => 0) 4 i = R at *
      generalize c.getD i 0 = x0 at *
      generalize c.getD ((i + 1) % 4) 0 = x1 at *
      generalize c.getD ((i + 2) % 4) 0 = x2 at *
      generalize c.getD ((i + 3) % 4) 0 = x3 at *
      generalize c.map byteV = Y at *
      have a1 := add_c1 i (by omega)
      have a2 := add_c2 i (by omega)
      have a3 := add_c3 i (by omega)
      refine awp_mrk_end T.mixed [(o1, Y), (o3, R)] [4, 10] [3, 9, 16, 22, 28] [31] (by kernel_rfl) (by simp only [Pres_cons, Pres_nil, and_true]; simp [AS.set, upd, j1, j3]) ?_
      intro K hK
      simp only [↓AXr_nil, ↓AXr_cons, gval, lval, fzGet_cons, fzGet_nil, Pres_cons, Pres_nil, List.any_cons, List.any_nil, List.contains_cons, List.contains_nil, Nat.reduceBEq, Bool.or_false, Bool.or_true, Bool.or_self, Bool.false_or, ↓DN, UP, DF, qSh, qCv, qIA, qIx, qSl, qBu, qCe, qOn, reduceCtorEq, ↓reduceIte, nLT, nLE, nEQ, nAdd, nMul, nPow, nSub, zLT, zLE, zNat, RAes5128, e1, e3, e5, hi0, hi2, hi3, k1, k2, k3, m1, m2, m3, d0, d1, d2, d3, a1, a2, a3, rem4, four_ne, h31, h31.symm, j1, j3, byteV, b_xor, hset, hlen, hcl]
      refine acallk (double_calls x0 _) ?_
      rintro r sa ⟨rfl, rfl⟩
      simp only [↓AXq_nil, ↓AXq_cons, pval, ↓AXr_nil, ↓AXr_cons, gval, lval, fzGet_cons, fzGet_nil, Pres_cons, Pres_nil, List.any_cons, List.any_nil, DX, Nat.reduceBEq, ↓DN, UP, DF, qSh, qCv, qIA, qIx, qSl, qBu, qCe, qOn, reduceCtorEq, ↓reduceIte, nLT, nLE, nEQ, nAdd, nMul, nPow, nSub, zLT, zLE, zNat, RAes5128, e1, e3, e5, hi0, hi2, hi3, k1, k2, k3, m1, m2, m3, d0, d1, d2, d3, a1, a2, a3, rem4, four_ne, h31, h31.symm, j1, j3, byteV, b_xor, hset, hlen, hcl]
      refine acallk (double_calls x1 _) ?_
      rintro r sb ⟨rfl, rfl⟩
      simp only [↓AXq_nil, ↓AXq_cons, pval, ↓AXr_nil, ↓AXr_cons, gval, lval, fzGet_cons, fzGet_nil, Pres_cons, Pres_nil, List.any_cons, List.any_nil, DX, Nat.reduceBEq, ↓DN, UP, DF, qSh, qCv, qIA, qIx, qSl, qBu, qCe, qOn, reduceCtorEq, ↓reduceIte, nLT, nLE, nEQ, nAdd, nMul, nPow, nSub, zLT, zLE, zNat, RAes5128, e1, e3, e5, hi0, hi2, hi3, k1, k2, k3, m1, m2, m3, d0, d1, d2, d3, a1, a2, a3, rem4, four_ne, h31, h31.symm, j1, j3, byteV, b_xor, hset, hlen, hcl]
      refine ⟨by omega, hK _ _ ?_⟩
      clear hK K
      simp only [blockQ, thenQ, if_true, if_false]
      refine hK3 _ _ ?_
      clear hK3 K3
      refine awp_reg_end ?_
      intro K hK
      simp only [↓DN, UP, DF, qSh, qCv, qIA, qIx, qSl, qBu, qCe, qOn, reduceCtorEq, ↓reduceIte, nLT, nLE, nEQ, nAdd, nMul, nPow, nSub, zLT, zLE, zNat, RAes5128, e5, w_succ i (by omega)]
      refine hK _ _ ?_
      clear hK K
      refine ⟨⟨i + 1, by omega, by simp only [upd, e1, nEQ, ↓reduceIte], by simp only [upd, e2, nEQ, ↓reduceIte], by simp only [upd, e3, nEQ, ↓reduceIte], by simp only [upd, ↓reduceIte], by rw [hR']; exact AS.set_objs_same _ _ _, by rw [AS.set_objs_ne _ h31.symm]; exact j1, by rw [AS.set_objs_ne _ h32.symm]; exact j2, AS.le_set hle ho3' _⟩, ?_⟩
      simp only [e5, upd, ↓reduceIte]
      omega
    · have hi2 : ¬ (i : Int) < 4 := by omega
      obtain rfl : i = 4 := by omega
      refine awp_reg_seq ?_
      intro K hK
      simp only [↓DN, UP, DF, qSh, qCv, qIA, qIx, qSl, qBu, qCe, qOn, reduceCtorEq, ↓reduceIte, nLT, nLE, nEQ, nAdd, nMul, nPow, nSub, zLT, zLE, zNat, RAes5128, e5, decide_eq_false hi2]
      refine hK _ _ ?_
      clear hK K
      refine awp_seq_k ?_
      intro K2 hK2
      refine awp_cond_k ?_
      intro X Y hX hY
      simp only [↓DN, UP, DF, qSh, qCv, qIA, qIx, qSl, qBu, qCe, qOn, reduceCtorEq, ↓reduceIte, nLT, nLE, nEQ, nAdd, nMul, nPow, nSub, zLT, zLE, zNat, RAes5128, DB]
      refine hY ?_
      clear hX hY X Y
      refine awp_exit ?_
      simp only [thenQ, blockQ, if_true]
      clear hK2 K2
      refine hK _ _ ?_
      clear hK K
      rw [fillG_full, hF] at j3
      have hwl : ((mixB c).map byteV).length = 4 := by rw [List.length_map, mixB_len]
      have hall := all_bytes (mixB c)
      have htk : List.take 4 ((mixB c).map byteV) = (mixB c).map byteV := List.take_of_length_le (by omega)
      generalize (mixB c).map byteV = X at *
      refine awp_reg_seq ?_
      intro K hK
      simp only [↓DN, UP, DF, qSh, qCv, qIA, qIx, qSl, qBu, qCe, qOn, reduceCtorEq, ↓reduceIte, nLT, nLE, nEQ, nAdd, nMul, nPow, nSub, zLT, zLE, zNat, RAes5128, e2, e3, j2, j3, hwl, htk, hall, h32, h32.symm]
      rw [asetAll_whole Z X (by omega)]
      refine ⟨by omega, hK _ _ ?_⟩
      clear hK K
      refine awp_ret ?_
      refine aends_cell (v := .agg X) (o := o2) (off := 0) (by simp only [upd, e2, nEQ, ↓reduceIte]) (AS.set_objs_same _ _ _) (by rw [T.c156]; decide) (by simp only [↓DN, UP, DF, qSh, qCv, qIA, qIx, qSl, qBu, qCe, qOn, reduceCtorEq, ↓reduceIte, nLT, nLE, nEQ, nAdd, nMul, nPow, nSub, zLT, zLE, zNat, RAes5128, hwl, htk]) ?_
      exact ⟨_, s, AV.weak.refl _, AS.le_set hle ho2' _, rfl, rfl⟩

end Go.Proofs.YtooeklnbdgoneaaDoor


