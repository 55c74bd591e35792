/- Contracts of the program's functions, each walked once; the conditions stand in each theorem. -/
import Derived.Test.YtcnilmidfhpckaaDoorAMp6
import Derived.Test.YtcnilmidfhpckaaDoorW1
import Derived.Test.YtcnilmidfhpckaaDoorW5
import Derived.Test.YtcnilmidfhpckaaDoorW4
import Derived.Test.YtcnilmidfhpckaaDoorW3
import Derived.Test.YtcnilmidfhpckaaDoorAMp4
import Derived.Test.YtcnilmidfhpckaaDoorAMp5
import Derived.Test.YtcnilmidfhpckaaDoorW2
import Derived.Test.YtcnilmidfhpckaaDoorRows
import Derived.Test.YtcnilmidfhpckaaDoorAMp1
import Derived.ProofKit
import Derived.LaidMore
import Derived.MakeChecks
import Derived.OpenShut
set_option linter.unusedSimpArgs false
set_option linter.unusedVariables false
open Nat renaming reduceLT → Na, reduceLeDiff → Nb, reduceEqDiff → Nc, reduceAdd → Nk, reduceMul → Nf, reducePow → Ng, reduceSub → Nh
open Int renaming reduceLT → Za, reduceLE → Zb, reduceToNat → Zc
open Go.AM renaming ashift → Qa, aconv → Qb, aindexAddr → Qc, aindex → Qd, aslice → Qe, abuiltin → Qf, awp_reg_seq → wS, awp_reg_end → wE, awp_seq_k → wK, awp_cond_k → wC
open Go.AM.AV renaming cells → Qg, one → Qh
set_option autoImplicit false
namespace Go.Proofs.YtcnilmidfhpckaaDoor
open Go Go.AM Go.Proofs


variable {Γ : Nat → List AV}

/-! ### The document's example -/
def ex1 : List NodeV := [leafN [97] 9]
def ex2 : List NodeV := (addR ex1 [98] 9).1
def ex3 : List NodeV := (addR ex2 [99] 9).1
def ex4 : List NodeV := (remR ex3 2).1
instance (t : List NodeV) : Decidable (TreeW t) := by unfold TreeW; infer_instance
theorem ex1_ok : (leafN [97] 9).right ∧ TreeW ex1 := by decide +kernel
theorem ex2_ok : (addR ex1 [98] 9).2 = (1, 0) ∧ ex2.length = 3 ∧ TreeW ex2 := by decide +kernel
theorem ex3_ok : (addR ex2 [99] 9).2 = (2, 0) ∧ ex3.length = 7 ∧ TreeW ex3 ∧ (if rightT ex3 then lvs ex3 else 0) = 4 := by decide +kernel
theorem ex4_ok : (remR ex3 2).2 = 0 ∧ ex4.length = 3 ∧ TreeW ex4 ∧ (if rightT ex4 then lvs ex4 else 0) = 2 := by decide +kernel

set_option maxRecDepth 100000 in
set_option maxHeartbeats 2000000 in
theorem awake20_calls (hG : Γ 1 = dB64.map u8C) (s : AS) : ACalls Tryd.prog Γ 4 [] s (fun r s' => r = .v (.bool true) ∧ s' = s) := by
  refine acalls_body Tryd.func4 rfl Tryd.ntmps4 Tryd.results4 (by simp) ?_
  have h1 := fun s => new20_calls (Γ := Γ) [97] 9 (by decide) s
  have h2 := fun s => ACalls.tidy (add20_calls (Γ := Γ) hG ex1 ex1_ok.2 [98] 9 (by decide) s)
  have h3 := fun s => ACalls.tidy (add20_calls (Γ := Γ) hG ex2 ex2_ok.2.2 [99] 9 (by decide) s)
  have h4 := fun s => ACalls.tidy (remove20_calls (Γ := Γ) hG ex3 ex3_ok.2.2.1 2 s)
  have h5 := fun s => leaves20_calls (Γ := Γ) hG ex3 ex3_ok.2.2.1 s
  have h6 := fun s => leaves20_calls (Γ := Γ) hG ex4 ex4_ok.2.2.1 s
  rw [ex3_ok.2.2.2] at h5
  rw [ex4_ok.2.2.2] at h6
  have e1 : treeV [leafN [97] 9] = treeV ex1 := rfl
  rw [if_pos ex1_ok.1, e1] at h1
  have e2 : treeN (addR ex1 [98] 9).1 = treeV ex2 := treeN_ne (by rw [show (addR ex1 [98] 9).1 = ex2 from rfl, ex2_ok.2.1]; decide)
  have e3 : treeN (addR ex2 [99] 9).1 = treeV ex3 := treeN_ne (by rw [show (addR ex2 [99] 9).1 = ex3 from rfl, ex3_ok.2.1]; decide)
  have e4 : treeN (remR ex3 2).1 = treeV ex4 := treeN_ne (by rw [show (remR ex3 2).1 = ex4 from rfl, ex4_ok.2.1]; decide)
  rw [e2, ex2_ok.1] at h2
  rw [e3, ex3_ok.1] at h3
  rw [e4, ex4_ok.1] at h4
  generalize treeV ex1 = t1 at *
  generalize treeV ex2 = t2 at *
  generalize treeV ex3 = t3 at *
  generalize treeV ex4 = t4 at *
  unfold bytesV at *
  refine wS fun K hK => ?_
  simp only [↓DN,UP,DF,Qa,Qb,Qc,Qd,Qe,Qf,Qg,Qh,reduceCtorEq,↓reduceIte,Na,Nb,Nc,Nk,Nf,Ng,Nh,Za,Zb,Zc,TT]
  refine hK _ _ ?_;clear hK K
  refine wS fun K hK => ?_
  simp only [↓DN,UP,DF,Qa,Qb,Qc,Qd,Qe,Qf,Qg,Qh,reduceCtorEq,↓reduceIte,Na,Nb,Nc,Nk,Nf,Ng,Nh,Za,Zb,Zc,TT, show List.replicate 1 (AV.v (.int .u8 0)) = [AV.v (.int .u8 0)] from rfl]
  refine acallk (ACalls.weaks (.cons AV.weak_any (.cons (AV.weak.refl _) .nil)) (h1 _)) ?_
  rintro r s1 ⟨rfl, rfl⟩
  simp only [↓AXq_nil,↓AXq_cons,pval,DX,Nat.reduceBEq,↓DN,UP,DF,Qa,Qb,Qc,Qd,Qe,Qf,Qg,Qh,reduceCtorEq,↓reduceIte,Na,Nb,Nc,Nk,Nf,Ng,Nh,Za,Zb,Zc,TT]
  refine hK _ _ ?_;clear hK K
  refine wS fun K hK => ?_
  simp only [↓DN,UP,DF,Qa,Qb,Qc,Qd,Qe,Qf,Qg,Qh,reduceCtorEq,↓reduceIte,Na,Nb,Nc,Nk,Nf,Ng,Nh,Za,Zb,Zc,TT, show List.replicate 1 (AV.v (.int .u8 0)) = [AV.v (.int .u8 0)] from rfl]
  refine acallk (ACalls.weaks (.cons (AV.weak.refl _) (.cons AV.weak_any (.cons (AV.weak.refl _) .nil))) (h2 _)) ?_
  rintro r s2 ⟨rfl, rfl⟩
  simp only [↓AXq_nil,↓AXq_cons,pval,DX,Nat.reduceBEq,↓DN,UP,DF,Qa,Qb,Qc,Qd,Qe,Qf,Qg,Qh,reduceCtorEq,↓reduceIte,Na,Nb,Nc,Nk,Nf,Ng,Nh,Za,Zb,Zc,TT]
  refine hK _ _ ?_;clear hK K
  refine wS fun K hK => ?_
  simp only [↓DN,UP,DF,Qa,Qb,Qc,Qd,Qe,Qf,Qg,Qh,reduceCtorEq,↓reduceIte,Na,Nb,Nc,Nk,Nf,Ng,Nh,Za,Zb,Zc,TT, show List.replicate 1 (AV.v (.int .u8 0)) = [AV.v (.int .u8 0)] from rfl]
  refine acallk (ACalls.weaks (.cons (AV.weak.refl _) (.cons AV.weak_any (.cons (AV.weak.refl _) .nil))) (h3 _)) ?_
  rintro r s3 ⟨rfl, rfl⟩
  simp only [↓AXq_nil,↓AXq_cons,pval,DX,Nat.reduceBEq,↓DN,UP,DF,Qa,Qb,Qc,Qd,Qe,Qf,Qg,Qh,reduceCtorEq,↓reduceIte,Na,Nb,Nc,Nk,Nf,Ng,Nh,Za,Zb,Zc,TT]
  refine hK _ _ ?_;clear hK K
  refine wS fun K hK => ?_
  simp only [↓DN,UP,DF,Qa,Qb,Qc,Qd,Qe,Qf,Qg,Qh,reduceCtorEq,↓reduceIte,Na,Nb,Nc,Nk,Nf,Ng,Nh,Za,Zb,Zc,TT]
  refine acallk (h4 _) ?_
  rintro r s4 ⟨rfl, rfl⟩
  simp only [↓AXq_nil,↓AXq_cons,pval,DX,Nat.reduceBEq,↓DN,UP,DF,Qa,Qb,Qc,Qd,Qe,Qf,Qg,Qh,reduceCtorEq,↓reduceIte,Na,Nb,Nc,Nk,Nf,Ng,Nh,Za,Zb,Zc,TT]
  refine hK _ _ ?_;clear hK K
  refine wS fun K hK => ?_
  simp only [↓DN,UP,DF,Qa,Qb,Qc,Qd,Qe,Qf,Qg,Qh,reduceCtorEq,↓reduceIte,Na,Nb,Nc,Nk,Nf,Ng,Nh,Za,Zb,Zc,TT, show ((0 : Int) == 0) = true from rfl, show ((2 : Int) == 2) = true from rfl, show (((2 : Nat) : Int) == 2) = true from rfl, show (((0 : Nat) : Int) == 0) = true from rfl]
  refine acallk (h5 _) ?_
  rintro r s5 ⟨rfl, rfl⟩
  simp only [↓AXq_nil,↓AXq_cons,pval,DX,Nat.reduceBEq,↓DN,UP,DF,Qa,Qb,Qc,Qd,Qe,Qf,Qg,Qh,reduceCtorEq,↓reduceIte,Na,Nb,Nc,Nk,Nf,Ng,Nh,Za,Zb,Zc,TT, show (((4 : Nat) : Int) == 4) = true from rfl]
  refine acallk (h6 _) ?_
  rintro r s6 ⟨rfl, rfl⟩
  simp only [↓AXq_nil,↓AXq_cons,pval,DX,Nat.reduceBEq,↓DN,UP,DF,Qa,Qb,Qc,Qd,Qe,Qf,Qg,Qh,reduceCtorEq,↓reduceIte,Na,Nb,Nc,Nk,Nf,Ng,Nh,Za,Zb,Zc,TT, show (((2 : Nat) : Int) == 2) = true from rfl]
  refine hK _ _ ?_;clear hK K
  refine awp_ret ?_
  try simp only [thenQ, blockQ]
  simp only [retQ, AEnds, aresL, ares, List.toList_toArray, ↓upd_same]; try simp only [UP,DF,Nc,↓reduceIte,DT]
  exact ⟨_, _, AV.weak.refl _, AS.le.refl _, rfl, rfl⟩

end Go.Proofs.YtcnilmidfhpckaaDoor


set_option autoImplicit false
namespace Go.AM

/-! ### Expanding, in plain Lean -/
namespace Kdf
variable (secret info : List UInt8)
def blk : Nat → List UInt8
  | 0 => []
  | i + 1 => Mac.tag secret (blk i ++ info ++ [UInt8.ofNat (i + 1)])
def row : Nat → List UInt8
  | 0 => []
  | i + 1 => row i ++ blk secret info (i + 1)
theorem blk_len (i : Nat) : (blk secret info (i + 1)).length = 32 := Mac.tag_len _ _
theorem row_len : ∀ i : Nat, (row secret info i).length = 32 * i
  | 0 => rfl
  | i + 1 => by rw [row, List.length_append, row_len i, blk_len]; omega
def rounds (n : Nat) : Nat := (n + 31) / 32
def expand (n : Nat) : List UInt8 := (row secret info (rounds n)).take n
def ok (n : Int) : Bool := decide (0 ≤ n) && decide (n ≤ 8160)
def get (n : Int) : List UInt8 := if ok n = true then expand secret info n.toNat else []
end Kdf
end Go.AM


set_option autoImplicit false
namespace Go.AM

/-! ### Labelled secrets, in plain Lean -/
namespace Kdf
def mls : List UInt8 := [109, 108, 115, 32]
def fits (l c : List UInt8) (n : Int) : Bool := decide (l.length ≤ 251) && decide (c.length ≤ 65535) && decide (0 ≤ n) && decide (n ≤ 8160)
def text (l c : List UInt8) (n : Nat) : List UInt8 := be 2 n ++ (be 1 (mls ++ l).length ++ (mls ++ l)) ++ (be 2 c.length ++ c)
def label (secret l c : List UInt8) (n : Int) : List UInt8 := if fits l c n = true then expand secret (text l c n.toNat) n.toNat else []
def derive (secret l : List UInt8) : List UInt8 := label secret (l.take 251) [] 32
def pen (l c : List UInt8) (n : Int) : List UInt8 × Bool := penText 2 c (penText 1 (mls ++ l) (penSmall 2 n ([], false)))

end Kdf
end Go.AM


set_option autoImplicit false
namespace Go.AM

/-! ### The secrets of an epoch, in plain Lean -/
namespace Sch
def epochW : List UInt8 := [101, 112, 111, 99, 104]
def welcomeW : List UInt8 := [119, 101, 108, 99, 111, 109, 101]
def exporterW : List UInt8 := [101, 120, 112, 111, 114, 116, 101, 114]
def confirmW : List UInt8 := [99, 111, 110, 102, 105, 114, 109]
def memberW : List UInt8 := [109, 101, 109, 98, 101, 114, 115, 104, 105, 112]
def initW : List UInt8 := [105, 110, 105, 116]
def main (j : List UInt8) : List UInt8 := Mac.tag j (List.replicate 32 0)
def epoch (j c : List UInt8) : List UInt8 := Kdf.label (main j) epochW c 32
def of (j c : List UInt8) : List (List UInt8) := [j, Kdf.derive (main j) welcomeW, Kdf.derive (epoch j c) exporterW, Kdf.derive (epoch j c) confirmW, Kdf.derive (epoch j c) memberW, Kdf.derive (epoch j c) initW]
end Sch
end Go.AM


set_option autoImplicit false
namespace Go.AM
/-! ### The cipher, in plain Lean -/
namespace Aes
def dbl (a : UInt8) : UInt8 := (a <<< (1 : UInt8)) ^^^ ((27 : UInt8) &&& ((0 : UInt8) - (a >>> (7 : UInt8))))
/-- What is left of a product. -/
def gm : Nat → UInt8 → UInt8 → UInt8 → UInt8
  | 0, o, _, _ => o
  | f + 1, o, a, b => gm f (o ^^^ (a &&& ((0 : UInt8) - (b &&& 1)))) (dbl a) (b >>> 1)
/-- What is left of a power. -/
def pw : Nat → UInt8 → UInt8 → Nat → UInt8
  | 0, o, _, _ => o
  | f + 1, o, a, n => pw f (if n % 2 = 1 then gm 8 0 o a else o) (gm 8 0 a a) (n / 2)
def inv (a : UInt8) : UInt8 := pw 8 1 a 254
def rot (x : UInt8) (i : Nat) : UInt8 := UInt8.ofNat (x.toNat * 2 ^ i) ||| UInt8.ofNat (x.toNat / 2 ^ (8 - i))
def boxP (x : UInt8) : Nat → UInt8
  | 0 => 99 ^^^ x
  | k + 1 => boxP x k ^^^ rot x (k + 1)
def box (c : UInt8) : UInt8 := boxP (inv c) 4

/-! The document's answer, with natural numbers. -/
def sb : List UInt8 := [99, 124, 119, 123, 242, 107, 111, 197, 48, 1, 103, 43, 254, 215, 171, 118, 202, 130, 201, 125, 250, 89, 71, 240, 173, 212, 162, 175, 156, 164, 114, 192, 183, 253, 147, 38, 54, 63, 247, 204, 52, 165, 229, 241, 113, 216, 49, 21, 4, 199, 35, 195, 24, 150, 5, 154, 7, 18, 128, 226, 235, 39, 178, 117, 9, 131, 44, 26, 27, 110, 90, 160, 82, 59, 214, 179, 41, 227, 47, 132, 83, 209, 0, 237, 32, 252, 177, 91, 106, 203, 190, 57, 74, 76, 88, 207, 208, 239, 170, 251, 67, 77, 51, 133, 69, 249, 2, 127, 80, 60, 159, 168, 81, 163, 64, 143, 146, 157, 56, 245, 188, 182, 218, 33, 16, 255, 243, 210, 205, 12, 19, 236, 95, 151, 68, 23, 196, 167, 126, 61, 100, 93, 25, 115, 96, 129, 79, 220, 34, 42, 144, 136, 70, 238, 184, 20, 222, 94, 11, 219, 224, 50, 58, 10, 73, 6, 36, 92, 194, 211, 172, 98, 145, 149, 228, 121, 231, 200, 55, 109, 141, 213, 78, 169, 108, 86, 244, 234, 101, 122, 174, 8, 186, 120, 37, 46, 28, 166, 180, 198, 232, 221, 116, 31, 75, 189, 139, 138, 112, 62, 181, 102, 72, 3, 246, 14, 97, 53, 87, 185, 134, 193, 29, 158, 225, 248, 152, 17, 105, 217, 142, 148, 155, 30, 135, 233, 206, 85, 40, 223, 140, 161, 137, 13, 191, 230, 66, 104, 65, 153, 45, 15, 176, 84, 187, 22]
def S (x : UInt8) : UInt8 := sb.getD x.toNat 0
/-! Round keys. -/
def pwr : Nat → UInt8
  | 0 => 1
  | r + 1 => dbl (pwr r)
def nx (k : List UInt8) (p : UInt8) : List UInt8 :=
  match k with
  | [k0, k1, k2, k3, k4, k5, k6, k7, k8, k9, k10, k11, k12, k13, k14, k15] =>
    let a0 := (k0 ^^^ S k13) ^^^ p
    let a1 := k1 ^^^ S k14
    let a2 := k2 ^^^ S k15
    let a3 := k3 ^^^ S k12
    let b0 := k4 ^^^ a0
    let b1 := k5 ^^^ a1
    let b2 := k6 ^^^ a2
    let b3 := k7 ^^^ a3
    let c0 := k8 ^^^ b0
    let c1 := k9 ^^^ b1
    let c2 := k10 ^^^ b2
    let c3 := k11 ^^^ b3
    [a0, a1, a2, a3, b0, b1, b2, b3, c0, c1, c2, c3, k12 ^^^ c0, k13 ^^^ c1, k14 ^^^ c2, k15 ^^^ c3]
  | _ => []
def kr (key : List UInt8) : Nat → List UInt8
  | 0 => key
  | r + 1 => nx (kr key r) (pwr r)
/-! Rounds. -/
def sh (b : List UInt8) (n : Nat) : UInt8 := S (b.getD (4 * ((n / 4 + n % 4) % 4) + n % 4) 0)
def mx (c : Nat → UInt8) (i : Nat) : UInt8 := (((dbl (c i) ^^^ dbl (c ((i + 1) % 4))) ^^^ c ((i + 1) % 4)) ^^^ c ((i + 2) % 4)) ^^^ c ((i + 3) % 4)
def rnd (b : List UInt8) (last : Bool) : List UInt8 := (List.range 16).map fun n => if last then sh b n else mx (fun i => sh b (4 * (n / 4) + i)) (n % 4)
def add (b k : List UInt8) : List UInt8 := (List.range 16).map fun n => b.getD n 0 ^^^ k.getD n 0
def state (key b : List UInt8) : Nat → List UInt8
  | 0 => add b (kr key 0)
  | r + 1 => add (rnd (state key b r) (r + 1 == 10)) (kr key (r + 1))
def block (key b : List UInt8) : List UInt8 := state key b 10
/-! The mask. -/
def first (nonce : List UInt8) : Nat := beNat (nonce.drop 12)
def ctr (nonce : List UInt8) (i : Nat) : List UInt8 := nonce.take 12 ++ be 4 ((first nonce + i) % 4294967296)
def maskB (key nonce : List UInt8) (p : Nat) : UInt8 := (block (key.take 16) (ctr nonce (p / 16))).getD (p % 16) 0
def mask (key nonce text : List UInt8) : List UInt8 := (List.range text.length).map fun p => text.getD p 0 ^^^ maskB key nonce p
def tag (key nonce beside masked : List UInt8) : List UInt8 := (Mac.tag (key.drop 16) (be 4 beside.length ++ (beside ++ (nonce ++ masked)))).take 16
theorem tag_len (key nonce beside masked : List UInt8) : (tag key nonce beside masked).length = 16 := by simp [tag, Mac.tag_len]
end Aes
end Go.AM


set_option autoImplicit false
namespace Go.AM
namespace Vault
def k0 : List UInt8 := [169, 244, 63, 67, 64, 52, 17, 249, 117, 86, 100, 57, 122, 167, 125, 1, 230, 91, 103, 131, 115, 144, 199, 68, 248, 159, 166, 218, 250, 248, 1, 114, 135, 15, 162, 208, 108, 252, 211, 18, 83, 148, 90, 178, 179, 251, 67, 14]
def n3 : List UInt8 := [8, 190, 219, 198, 217, 21, 206, 227, 25, 6, 89, 27, 186, 224, 186, 54]
def n4 : List UInt8 := [184, 102, 163, 253, 77, 158, 128, 5, 108, 65, 104, 250, 253, 115, 180, 138]
def m3 : List UInt8 := [247, 169, 26, 226, 24, 129, 224, 169, 173, 123, 5, 148, 71, 154, 82, 74, 108, 148, 179, 118, 179, 215, 27, 211, 244, 97, 172, 107, 233, 136, 76, 169]
def t3 : List UInt8 := [8, 206, 240, 108, 85, 27, 1, 138, 119, 108, 80, 208, 57, 159, 143, 149]
end Vault
end Go.AM


set_option autoImplicit false
namespace Go.AM
open Go

theorem IsTy.record {avs : List AV} (h : IsTy (.struct (.cons tyI (.cons tyB (.cons tyI (.cons tyI (.cons tyI (.cons tyB (.cons tyB (.cons tyB (.cons tyB .nil)))))))))) avs) : ∃ R : Rec, avs = R.cells := by
  obtain ⟨x1, y1, rfl, t1, h⟩ := isF_cons (isTy_struct h)
  obtain ⟨x2, y2, rfl, t2, h⟩ := isF_cons h
  obtain ⟨x3, y3, rfl, t3, h⟩ := isF_cons h
  obtain ⟨x4, y4, rfl, t4, h⟩ := isF_cons h
  obtain ⟨x5, y5, rfl, t5, h⟩ := isF_cons h
  obtain ⟨x6, y6, rfl, t6, h⟩ := isF_cons h
  obtain ⟨x7, y7, rfl, t7, h⟩ := isF_cons h
  obtain ⟨x8, y8, rfl, t8, h⟩ := isF_cons h
  obtain ⟨x9, y9, rfl, t9, h⟩ := isF_cons h
  obtain rfl := isF_nil h
  obtain ⟨n1, rfl, _⟩ := isTy_int t1
  obtain ⟨l2, rfl, _⟩ := t2.bytes
  obtain ⟨n3, rfl, _⟩ := isTy_int t3
  obtain ⟨n4, rfl, _⟩ := isTy_int t4
  obtain ⟨n5, rfl, _⟩ := isTy_int t5
  obtain ⟨l6, rfl, _⟩ := t6.bytes
  obtain ⟨l7, rfl, _⟩ := t7.bytes
  obtain ⟨l8, rfl, _⟩ := t8.bytes
  obtain ⟨l9, rfl, _⟩ := t9.bytes
  exact ⟨⟨n1, l2, n3, n4, n5, l6, l7, l8, l9⟩, rfl⟩
end Go.AM


set_option autoImplicit false
namespace Go.AM
open Go

/-! ### Lists of octets -/
def strC (b : List UInt8) : AV := .v (.string ⟨b.toArray⟩)
def smallX (l : List (List UInt8)) : Prop := l.length ≤ 12 ∧ ∀ b ∈ l, b.length ≤ 4000
instance (l : List (List UInt8)) : Decidable (smallX l) := by unfold smallX; infer_instance
end Go.AM


set_option autoImplicit false
namespace Go.AM
open Go

/-- A row of nodes that comes in. -/
theorem IsTy.tree {avs : List AV} (h : IsTy (.slice 5 (.struct (.cons tyI (.cons tyB (.cons (.int .u64) (.cons tyB (.cons (.slice 1 tyI) .nil))))))) avs) : ∃ t : List NodeV, avs = [treeV t] ∧ ∀ n ∈ t, n.key < 2 ^ 64 := by
  obtain ⟨els, rfl, _, hall⟩ := IsTy.rows h
  have key : ∀ els : List (List AV), (∀ el ∈ els, el.length = 5 ∧ IsTy (.struct (.cons tyI (.cons tyB (.cons (.int .u64) (.cons tyB (.cons (.slice 1 tyI) .nil)))))) el) → ∃ t : List NodeV, els = t.map NodeV.cells ∧ ∀ n ∈ t, n.key < 2 ^ 64 := by
    intro els
    induction els with
    | nil => intro _; exact ⟨[], rfl, fun n hn => by cases hn⟩
    | cons e els ih =>
      intro h
      obtain ⟨t, rfl, h2⟩ := ih (fun el hel => h el (by simp [hel]))
      obtain ⟨_, h1⟩ := h e (by simp)
      obtain ⟨N, rfl, hN⟩ := IsTy.node h1
      refine ⟨N :: t, rfl, fun n hn => ?_⟩
      rcases List.mem_cons.1 hn with rfl | hn
      · exact hN
      · exact h2 n hn
  obtain ⟨t, rfl, h2⟩ := key els hall
  refine ⟨t, ?_, h2⟩
  unfold treeV rowC
  rw [List.length_map]

end Go.AM


set_option autoImplicit false
namespace Go.AM
open Go Go.RowKit

variable {P : Program} {Γ : Nat → List AV} {s : AS}

/-! ### Rows of cells, one of them another one -/
theorem row_splitC {α : Type} {c : α → List AV} {l : List α} {u : Nat} (h : u < l.length) : rowC c l = rowC c (l.take u) ++ c l[u] ++ rowC c (l.drop (u + 1)) := by
  have e : l = l.take u ++ l[u] :: l.drop (u + 1) := by rw [List.getElem_cons_drop, List.take_append_drop]
  have e2 : rowC c l = rowC c (l.take u ++ l[u] :: l.drop (u + 1)) := by rw [← e]
  rw [e2]
  simp only [rowC, List.map_append, List.map_cons, List.flatten_append, List.flatten_cons, List.append_assoc]
theorem row_setC {α : Type} {c : α → List AV} {k : Nat} (hk : ∀ a, (c a).length = k) {l : List α} {u : Nat} (h : u < l.length) (a : α) (rest : List AV) : asetAll (rowC c l ++ rest) (u * k) (c a) = rowC c (l.set u a) ++ rest := by
  have hl : (rowC c (l.take u)).length = u * k := by rw [row_len hk, List.length_take]; congr 1; omega
  have e2 : rowC c (l.set u a) = rowC c (l.take u) ++ c a ++ rowC c (l.drop (u + 1)) := by
    rw [List.set_eq_take_append_cons_drop, if_pos h]
    simp [rowC]
  rw [e2, row_splitC h]
  rw [Mac.asetAll_front _ _ _ (by simp [hk, hl])]
  have a1 : (rowC c (l.take u) ++ c l[u] ++ rowC c (l.drop (u + 1)) ++ rest).take (u * k) = rowC c (l.take u) := by
    rw [List.append_assoc, List.append_assoc, ← hl, List.take_left]
  have a2 : (rowC c (l.take u) ++ c l[u] ++ rowC c (l.drop (u + 1)) ++ rest).drop (u * k + (c a).length) = rowC c (l.drop (u + 1)) ++ rest := by
    have e3 : u * k + (c a).length = (rowC c (l.take u) ++ c l[u]).length := by rw [List.length_append, hl, hk, hk]
    rw [e3, List.append_assoc _ _ rest, List.drop_left]
  rw [a1, a2]
  simp
/-- An object that nobody else has becomes a row to be read. -/
theorem Settles.tree {s : AS} {ob cap : Nat} {t : List NodeV} {rest : List AV} (h : s.objs ob = none) : Settles Γ (s.set ob (rowC NodeV.cells t ++ rest)) (.osl ob 0 5 t.length cap) s (treeV t) := by
  refine (Settles.outer (Γ := Γ) (AS.set_objs_same s ob _) (row_len cells_len t)).trans (Settles.le _ ?_)
  refine ⟨fun o cs hc => ?_, fun t e he => he⟩
  have hne : o ≠ ob := by rintro rfl; rw [h] at hc; cases hc
  rw [AS.drop_objs, upd_ne _ _ hne, AS.set_objs_ne _ hne]
  exact hc

/-! ### One operation of a region by its own law -/
end Go.AM


set_option autoImplicit false
namespace Go.AM
open Go

/-! ### Acts -/
structure ActV where
  kind : Int
  leaf : Int
  name : List UInt8
  key : Nat
def ActV.cells (a : ActV) : List AV := [.v (.int .i64 a.kind), .v (.int .i64 a.leaf), bytesV a.name .any, .v (.int .u64 a.key)]
def actsV (l : List ActV) : AV := .sl 4 l.length (rowC ActV.cells l) .any
theorem act_at {l : List ActV} {i : Nat} (h : i < l.length) : List.take 4 (List.drop (i * 4) (rowC ActV.cells l)) = (l[i]).cells := row_at (k := 4) (fun _ => rfl) h
theorem IsTy.act {avs : List AV} (h : IsTy (.struct (.cons tyI (.cons tyI (.cons tyB (.cons (.int .u64) .nil))))) avs) : ∃ a : ActV, avs = a.cells ∧ a.key < 2 ^ 64 := by
  obtain ⟨x1, y1, rfl, t1, h⟩ := isF_cons (isTy_struct h)
  obtain ⟨x2, y2, rfl, t2, h⟩ := isF_cons h
  obtain ⟨x3, y3, rfl, t3, h⟩ := isF_cons h
  obtain ⟨x4, y4, rfl, t4, h⟩ := isF_cons h
  obtain rfl := isF_nil h
  obtain ⟨n1, rfl, _⟩ := isTy_int t1
  obtain ⟨n2, rfl, _⟩ := isTy_int t2
  obtain ⟨l3, rfl, _⟩ := t3.bytes
  obtain ⟨n4, rfl, w4⟩ := isTy_int t4
  obtain ⟨m4, rfl, h4⟩ := nat_u64 w4
  exact ⟨⟨n1, n2, l3, m4⟩, rfl, h4⟩
theorem IsTy.acts {avs : List AV} (h : IsTy (.slice 4 (.struct (.cons tyI (.cons tyI (.cons tyB (.cons (.int .u64) .nil)))))) avs) : ∃ l : List ActV, avs = [actsV l] := by
  obtain ⟨els, rfl, _, hall⟩ := IsTy.rows h
  have key : ∀ els : List (List AV), (∀ el ∈ els, el.length = 4 ∧ IsTy (.struct (.cons tyI (.cons tyI (.cons tyB (.cons (.int .u64) .nil))))) el) → ∃ l : List ActV, els = l.map ActV.cells := by
    intro els
    induction els with
    | nil => intro _; exact ⟨[], rfl⟩
    | cons e els ih =>
      intro h
      obtain ⟨l, rfl⟩ := ih (fun el hel => h el (by simp [hel]))
      obtain ⟨_, h1⟩ := h e (by simp)
      obtain ⟨a, rfl, _⟩ := IsTy.act h1
      exact ⟨a :: l, rfl⟩
  obtain ⟨l, rfl⟩ := key els hall
  refine ⟨l, ?_⟩
  unfold actsV rowC
  rw [List.length_map]

/-! ### The plain list of names -/
theorem fold_key {n : NodeV} (h : n.right) : n.key < 2 ^ 64 := by
  rcases node_kind h with hk | hk | hk
  · rw [(right_zero hk).1 h]; decide
  · have := ((right_one hk).1 h).2.2.1.2.1; omega
  · have := ((right_two hk).1 h).2.1.2.1; omega
theorem fold_W {t : List NodeV} (h : rightT t) : TreeW t := by
  have hl := h.len
  have := hl.2.le
  refine ⟨by omega, fun n hn => ⟨by have := (right_small (h.nodes hn)).2.2; omega, fold_key (h.nodes hn)⟩⟩

/-- A tree and how many names lie in the list. -/
structure FoldOk (t : List NodeV) (n : Nat) : Prop where
  right : rightT t
  out : ∀ k : Nat, n ≤ k → ¬ memI t (k : Int)
  len : n ≤ 32
def nmC (t : List NodeV) (n : Nat) : List AV := (namesOf t n).map strC
theorem nmC_len (t : List NodeV) (n : Nat) : (nmC t n).length = n := by simp [nmC, namesOf_len]
theorem nmC_at (t : List NodeV) {n k : Nat} (h : k < n) (rest : List AV) : (List.drop k (nmC t n ++ rest))[0]? = some (strC (nameAt t k)) := by
  rw [List.getElem?_drop, Nat.add_zero, List.getElem?_append_left (by rw [nmC_len]; exact h)]
  simp [nmC, namesOf, h]
theorem nmC_more {t : List NodeV} {n : Nat} (h : ∀ k : Nat, n ≤ k → ¬ memI t (k : Int)) : nmC t n ++ [strC []] = nmC t (n + 1) := by
  have : nameAt t n = [] := by unfold nameAt; rw [if_neg (h n (Nat.le_refl _))]
  simp [nmC, namesOf, List.range_succ, this]
theorem nmC_set {t t' : List NodeV} {n leaf : Nat} (hl : leaf < n) {nm : List UInt8} (h : ∀ j : Nat, nameAt t' j = if j = leaf then nm else nameAt t j) (rest : List AV) : asetAll (nmC t n ++ rest) leaf [strC nm] = nmC t' n ++ rest := by
  have hc : ∀ l : List (List UInt8), rowC (fun b => [strC b]) l = l.map strC := fun l => by induction l with
    | nil => rfl
    | cons a l ih => simp only [rowC, List.map_cons, List.flatten_cons, List.singleton_append] at ih ⊢; rw [ih]
  have := row_setC (c := fun b => [strC b]) (k := 1) (fun _ => rfl) (l := namesOf t n) (u := leaf) (by rw [namesOf_len]; exact hl) nm rest
  rw [hc, hc, Nat.mul_one] at this
  unfold nmC
  rw [this]
  congr 1
  congr 1
  apply List.ext_getElem
  · simp [namesOf_len]
  · intro j h1 h2
    rw [List.getElem_set, namesOf_get, namesOf_get _ (by rw [namesOf_len] at h2; exact h2), h j]
    · simp only [eq_comm]
    · rw [List.length_set, namesOf_len] at h1; exact h1
theorem nmC_same {t t' : List NodeV} (n : Nat) (h : ∀ j : Nat, nameAt t' j = nameAt t j) : nmC t' n = nmC t n := by
  unfold nmC namesOf
  rw [List.map_congr_left (fun j _ => h j)]
theorem right_ne {t : List NodeV} (h : rightT t) : t.length ≠ 0 := by
  have := h.len
  have := this.2.le
  omega
/-- What an Add makes of the list. -/
theorem fold_add {t : List NodeV} {n : Nat} (hF : FoldOk t n) (name : List UInt8) (key : Nat) : (addR t name key).2.2 ≠ 0 ∨
    ∃ (t' : List NodeV) (v : Nat), addR t name key = (t', v, 0) ∧ v < 32 ∧ (∀ k : Nat, k < v → memI t (k : Int)) ∧ ¬ memI t (v : Int) ∧ (∀ m : Nat, n ≤ m → v < m → m ≤ 32 → FoldOk t' m) ∧ (∀ j : Nat, nameAt t' j = if j = v then name else nameAt t j) := by
  unfold addR
  rw [if_neg (fun h => h hF.right)]
  by_cases h1 : (leafN name key).right
  · rw [if_neg (fun h => h h1)]
    by_cases h2 : 0 ≤ namedI t name 0
    · rw [if_pos h2]; exact .inl (by decide)
    · rw [if_neg h2]
      by_cases h3 : freeT t = 32
      · rw [if_pos h3]; exact .inl (by decide)
      · rw [if_neg h3]
        obtain ⟨f1, f2, f3⟩ := freeT_spec t
        have hl := lvs_le t
        have hnm := fun j => add_names hF.right h1 rfl h2 h3 j
        refine .inr ⟨_, _, rfl, by omega, f3, f2, fun m h4 h5 h6 => ⟨addAt_right hF.right h1 rfl h2 h3, fun k hk hm => ?_, h6⟩, fun j => (hnm j).2⟩
        rcases (hnm k).1.1 hm with e | e
        · omega
        · exact hF.out k (by omega) e
  · rw [if_pos h1]; exact .inl (by decide)
theorem fold_upd {t : List NodeV} {n : Nat} (hF : FoldOk t n) (leaf : Int) (key : Nat) : (updR t leaf key).2 ≠ 0 ∨
    ∃ t' : List NodeV, updR t leaf key = (t', 0) ∧ FoldOk t' n ∧ (∀ j : Nat, nameAt t' j = nameAt t j) := by
  unfold updR
  rw [if_neg (fun h => h hF.right)]
  by_cases h1 : memI t leaf
  · rw [if_neg (fun h => h h1)]
    by_cases h2 : keyR key
    · rw [if_neg (fun h => h h2)]
      obtain ⟨l, rfl⟩ := Int.eq_ofNat_of_zero_le h1.1
      rw [Int.toNat_natCast]
      have hnm := fun j => upd_names hF.right h1 key j
      have hr1 := (right_one ((memN_iff rfl _).1 h1).2).1 (hF.right.nd _)
      exact .inr ⟨_, rfl, ⟨updT_right hF.right h1 (leafN_name.2 ⟨hr1.1, hr1.2.1, h2⟩), fun k hk hm => hF.out k hk ((hnm k).1.1 hm), hF.len⟩, fun j => (hnm j).2⟩
    · rw [if_pos h2]; exact .inl (by decide)
  · rw [if_pos h1]; exact .inl (by decide)
theorem fold_rm {t : List NodeV} {n : Nat} (hF : FoldOk t n) (leaf : Int) : (remR t leaf).2 ≠ 0 ∨
    ∃ (t' : List NodeV) (l : Nat), leaf = (l : Int) ∧ remR t leaf = (t', 0) ∧ l < n ∧ FoldOk t' n ∧ (∀ j : Nat, nameAt t' j = if j = l then [] else nameAt t j) := by
  unfold remR
  rw [if_neg (fun h => h hF.right)]
  by_cases h1 : memI t leaf
  · rw [if_neg (fun h => h h1)]
    by_cases h2 : cntN (memI t) 0 (lvs t) = 1
    · rw [if_pos h2]; exact .inl (by decide)
    · rw [if_neg h2]
      obtain ⟨l, rfl⟩ := Int.eq_ofNat_of_zero_le h1.1
      rw [Int.toNat_natCast]
      have hl := ((memN_iff rfl _).1 h1).1
      have hnm := fun j => rm_names hF.right hl j
      have hln : l < n := Nat.lt_of_not_le fun q => hF.out l q h1
      exact .inr ⟨_, l, rfl, rfl, hln, ⟨rmT_right hF.right hl, fun k hk hm => hF.out k hk ((hnm k).1.1 hm).2, hF.len⟩, fun j => (hnm j).2⟩
  · rw [if_pos h1]; exact .inl (by decide)

end Go.AM


set_option autoImplicit false
namespace Go.Proofs.YtcnilmidfhpckaaDoor
open Go Go.AM Go.Proofs


variable {Γ : Nat → List AV}

theorem foldRest_range (a n : Int) (hn : 0 < n) (hn2 : n ≤ 2 ^ 61) : ∃ k : Nat, irem (iadd .i64 (irem a n) n) n = (k : Int) ∧ (k : Int) < n := by
  have h1 : a.tmod n < n := Int.tmod_lt_of_pos a hn
  have h2 : -n < a.tmod n := by
    have h := Int.natAbs_tmod a n
    have := Nat.mod_lt a.natAbs (show 0 < n.natAbs by omega)
    omega
  unfold irem
  rw [iadd_i64 (by omega)]
  have h3 : 0 ≤ a.tmod n + n := by omega
  have h4 := Int.tmod_lt_of_pos (a.tmod n + n) hn
  have h5 := Int.tmod_nonneg n h3
  exact ⟨((a.tmod n + n).tmod n).toNat, by omega, by omega⟩

set_option maxHeartbeats 400000 in
theorem foldRest_calls (a n : Int) (hn : 0 < n) (hn2 : n ≤ 2 ^ 61) (s : AS) :
    ACalls Tryd.prog Γ 6 [.v (.int .i64 a), .v (.int .i64 n)] s (fun r s' => ∃ k : Nat, r = .v (.int .i64 k) ∧ (k : Int) < n ∧ s' = s) := by
  refine acalls_body Tryd.func6 rfl Tryd.ntmps6 Tryd.results6 (by simp) ?_
  obtain ⟨k, h1, h2⟩ := foldRest_range a n hn hn2
  have hn0 : ¬ n = 0 := by omega
  refine wS fun K hK => ?_
  simp only [↓DN,UP,DF,Qa,Qb,Qc,Qd,Qe,Qf,Qg,Qh,reduceCtorEq,↓reduceIte,Na,Nb,Nc,Nk,Nf,Ng,Nh,Za,Zb,Zc,TT]
  refine hK _ _ ?_;clear hK K
  refine wS fun K hK => ?_
  simp only [↓DN,UP,DF,Qa,Qb,Qc,Qd,Qe,Qf,Qg,Qh,reduceCtorEq,↓reduceIte,Na,Nb,Nc,Nk,Nf,Ng,Nh,Za,Zb,Zc,TT, hn0, h1]
  refine hK _ _ ?_;clear hK K
  refine awp_ret ?_
  simp only [retQ, AEnds, aresL, ares, List.toList_toArray, ↓upd_same]; try simp only [UP,DF,Nc,↓reduceIte,DT]
  exact ⟨_, _, AV.weak.refl _, AS.le.refl _, k, rfl, h2, rfl⟩

end Go.Proofs.YtcnilmidfhpckaaDoor


set_option autoImplicit false
namespace Go.Proofs.YtcnilmidfhpckaaDoor
open Go Go.AM Go.Proofs


variable {Γ : Nat → List AV}

def fold0 : List NodeV := [leafN [48] 9]
theorem fold0_ok : (leafN [48] 9).right ∧ rightT fold0 ∧ nameAt fold0 0 = [48] ∧ lvs fold0 = 1 := by decide +kernel

set_option maxRecDepth 100000 in
set_option maxHeartbeats 8000000 in
theorem ratchetFolds_calls (hG : Γ 1 = dB64.map u8C) (l : List ActV) (s : AS) : ACalls Tryd.prog Γ 3 [actsV l] s (fun r s' => r = .v (.bool true)) := by
  have haw := fun s => awake20_calls (Γ := Γ) hG s
  have hnew := fun s => new20_calls (Γ := Γ) [48] 9 (by decide) s
  have hacts := fun i (h : i < l.length) => act_at (l := l) h
  have e1 : treeV [leafN [48] 9] = treeV fold0 := rfl
  rw [if_pos fold0_ok.1, e1] at hnew
  have hF0 : FoldOk fold0 1 := ⟨fold0_ok.2.1, fun k hk hm => by have := hm.2.1; rw [fold0_ok.2.2.2] at this; omega, by decide⟩
  have hN0 : nmC fold0 1 = [strC [48]] := by simp [nmC, namesOf, List.range_succ, fold0_ok.2.2.1]
  generalize fold0 = T0 at *
  unfold actsV treeV at *
  generalize rowC ActV.cells l = X at *
  refine acalls_body Tryd.func3 rfl Tryd.ntmps3 Tryd.results3 (by simp) ?_
  unfold bytesV at *
  refine wS fun K hK => ?_
  simp only [↓DN,UP,DF,Qa,Qb,Qc,Qd,Qe,Qf,Qg,Qh,reduceCtorEq,↓reduceIte,Na,Nb,Nc,Nk,Nf,Ng,Nh,Za,Zb,Zc,TT]
  refine hK _ _ ?_;clear hK K
  refine wK fun K hK => ?_
  by_cases h40 : l.length ≤ 40
  · have h40' : decide ((40 : Int) < (l.length : Int)) = false := decide_eq_false (by omega)
    refine wS fun K hK => ?_
    simp only [↓DN,UP,DF,Qa,Qb,Qc,Qd,Qe,Qf,Qg,Qh,reduceCtorEq,↓reduceIte,Na,Nb,Nc,Nk,Nf,Ng,Nh,Za,Zb,Zc,TT]
    refine acallk (haw _) ?_
    rintro r s1 ⟨rfl, rfl⟩
    simp only [↓AXq_nil,↓AXq_cons,pval,DX,Nat.reduceBEq,↓DN,UP,DF,Qa,Qb,Qc,Qd,Qe,Qf,Qg,Qh,reduceCtorEq,↓reduceIte,Na,Nb,Nc,Nk,Nf,Ng,Nh,Za,Zb,Zc,TT, h40']
    refine hK _ _ ?_;clear hK K
    refine wC fun X Y hX hY => ?_
    simp only [↓DN,UP,DF,Qa,Qb,Qc,Qd,Qe,Qf,Qg,Qh,reduceCtorEq,↓reduceIte,Na,Nb,Nc,Nk,Nf,Ng,Nh,Za,Zb,Zc,TT, DB]
    refine hY ?_;clear hX hY X Y
    refine awp_skip ?_
    refine hK _ _ ?_;clear hK K
    refine wS fun K hK => ?_
    simp only [↓DN,UP,DF,Qa,Qb,Qc,Qd,Qe,Qf,Qg,Qh,reduceCtorEq,↓reduceIte,Na,Nb,Nc,Nk,Nf,Ng,Nh,Za,Zb,Zc,TT, show List.replicate 1 (AV.v (.int .u8 0)) = [AV.v (.int .u8 0)] from rfl]
    refine acallk (ACalls.weaks (.cons AV.weak_any (.cons (AV.weak.refl _) .nil)) (hnew _)) ?_
    rintro r s2 ⟨rfl, rfl⟩
    simp only [↓AXq_nil,↓AXq_cons,pval,DX,Nat.reduceBEq,↓DN,UP,DF,Qa,Qb,Qc,Qd,Qe,Qf,Qg,Qh,reduceCtorEq,↓reduceIte,Na,Nb,Nc,Nk,Nf,Ng,Nh,Za,Zb,Zc,TT]
    refine hK _ _ ?_;clear hK K
    refine awp_reg_mid0 rfl (by simp only [Option.some.injEq, forall_eq']; decide) _ (fun G a w hr => lit_obj_res (cs := [strC [48]]) (e := 9) rfl Tryd.underlying30 T.z9 (by rw [T.c9]; decide) (by rw [T.c9]; decide) (by rw [T.c9]; rfl) (by rw [T.c9]; rfl) hr.eval hr.st) ?_
    rw [T.c9]
    rintro r s3 ⟨ob, hob, rfl, rfl⟩
    simp only [↓AXq_nil,↓AXq_cons,pval,DX,Nat.reduceBEq,↓DN,UP,DF,Qa,Qb,Qc,Qd,Qe,Qf,Qg,Qh,reduceCtorEq,↓reduceIte,Na,Nb,Nc,Nk,Nf,Ng,Nh,Za,Zb,Zc,TT]
    refine wK fun K hK => ?_
    refine wS fun K hK => ?_
    simp only [↓DN,UP,DF,Qa,Qb,Qc,Qd,Qe,Qf,Qg,Qh,reduceCtorEq,↓reduceIte,Na,Nb,Nc,Nk,Nf,Ng,Nh,Za,Zb,Zc,TT]
    refine hK _ _ ?_;clear hK K
    refine awp_block ?_
    have hset : (s2.set ob [strC [48]]).objs ob = some ([strC [48]] ++ []) := by rw [AS.set_objs_same]; rfl
    generalize s2.set ob [strC [48]] = s3 at *
    refine awp_loop (fun E s4 => ∃ (i : Nat) (Tr : List NodeV) (n o cap : Nat) (rest : List AV), i ≤ l.length ∧ FoldOk Tr n ∧ E 6 = .v (.int .i64 i) ∧ E 0 = .sl 4 l.length X .any ∧ E 3 = .sl 5 Tr.length (rowC NodeV.cells Tr) .any ∧ E 5 = .osl o 0 1 n cap ∧ s4.objs o = some (nmC Tr n ++ rest) ∧ rest.length = cap - n ∧ n ≤ cap ∧ cap < 2 ^ 63)
      (fun E _ => match E 6 with | .v (.int _ i) => l.length - i.toNat | _ => 0) ?_ ?_
    · exact ⟨0, T0, 1, ob, 1, [], Nat.zero_le _, hF0, by simp only [upd, Nc, ↓reduceIte]; rfl, by simp only [upd, initE, List.getD_cons_zero, List.getD_cons_succ, Nc, ↓reduceIte], by simp only [upd, Nc, ↓reduceIte], by simp only [upd, Nc, ↓reduceIte], by rw [hN0]; exact hset, rfl, Nat.le_refl _, by decide⟩
    · rintro E1 s4 ⟨i, Tr, n, o, cap, rest, hi, hF, g6, g0, g3, g5, hobj, hrl, hcap, h63⟩ -
      clear hset hN0 hF0 hob haw hnew e1 T0 s2 s3 ob
      by_cases hi' : i < l.length
      · refine wK fun K2 hK2 => ?_
        refine wS fun K hK => ?_
        simp only [↓DN,UP,DF,Qa,Qb,Qc,Qd,Qe,Qf,Qg,Qh,reduceCtorEq,↓reduceIte,Na,Nb,Nc,Nk,Nf,Ng,Nh,Za,Zb,Zc,TT, g6, g0, eye_lt_nat, decide_eq_true hi']
        refine hK _ _ ?_;clear hK K
        refine wC fun X Y hX hY => ?_
        simp only [↓DN,UP,DF,Qa,Qb,Qc,Qd,Qe,Qf,Qg,Qh,reduceCtorEq,↓reduceIte,Na,Nb,Nc,Nk,Nf,Ng,Nh,Za,Zb,Zc,TT, DB]
        refine hX ?_;clear hX hY X Y
        refine awp_skip ?_
        refine hK2 _ _ ?_;clear hK2 K2
        refine wK fun K3 hK3 => ?_
        refine awp_block ?_
        have q6 := g6
        have hstep : ∀ (E : Env) (s5 : AS) (Tr : List NodeV) (n o cap : Nat) (rest : List AV), FoldOk Tr n → E 6 = .v (.int .i64 i) → E 0 = .sl 4 l.length X .any → E 3 = .sl 5 Tr.length (rowC NodeV.cells Tr) .any → E 5 = .osl o 0 1 n cap → s5.objs o = some (nmC Tr n ++ rest) → rest.length = cap - n → n ≤ cap → cap < 2 ^ 63 → K3 E s5 := by
          intro E s5 Tr n o cap rest hF g6 g0 g3 g5 hobj hrl hcap h63
          refine hK3 _ _ ?_;clear hK3 K3
          refine wE fun K hK => ?_
          simp only [↓DN,UP,DF,Qa,Qb,Qc,Qd,Qe,Qf,Qg,Qh,reduceCtorEq,↓reduceIte,Na,Nb,Nc,Nk,Nf,Ng,Nh,Za,Zb,Zc,TT, g6, eye_succM i (by omega)]
          refine hK _ _ ?_;clear hK K
          refine ⟨⟨i + 1, Tr, n, o, cap, rest, by omega, hF, by simp only [upd, Nc, ↓reduceIte], by simp only [upd, g0, Nc, ↓reduceIte], by simp only [upd, g3, Nc, ↓reduceIte], by simp only [upd, g5, Nc, ↓reduceIte], hobj, hrl, hcap, h63⟩, ?_⟩
          simp only [q6, upd, ↓reduceIte]
          omega
        clear hK3
        have hge : (0 : Int) ≤ ((i : Nat) : Int) := by omega
        have hat := hacts i hi'
        generalize l[i] = a at *
        unfold ActV.cells bytesV at hat
        refine awp_reg_frz 7 (by decide) ?_
        intro KF hKF
        simp only [↓AXq_nil,↓AXq_cons,pval,DX,Nat.reduceBEq,↓DN,UP,DF,Qa,Qb,Qc,Qd,Qe,Qf,Qg,Qh,reduceCtorEq,↓reduceIte,Na,Nb,Nc,Nk,Nf,Ng,Nh,Za,Zb,Zc,TT, g6, g0, eye_lt_nat, hi', hge, hat]
        intro ob hob
        refine hKF _ _ ob _ (by simp only [upd, Nc, ↓reduceIte]) hob ?_
        clear hKF KF hob hat
        refine wK fun K4 hK4 => ?_
        by_cases hnl : a.name.length ≤ 40
        · refine wS fun K hK => ?_
          simp only [↓DN,UP,DF,Qa,Qb,Qc,Qd,Qe,Qf,Qg,Qh,reduceCtorEq,↓reduceIte,Na,Nb,Nc,Nk,Nf,Ng,Nh,Za,Zb,Zc,TT, decide_eq_false (show ¬ (40 : Int) < (a.name.length : Int) by omega)]
          refine hK _ _ ?_;clear hK K
          refine wC fun X Y hX hY => ?_
          simp only [↓DN,UP,DF,Qa,Qb,Qc,Qd,Qe,Qf,Qg,Qh,reduceCtorEq,↓reduceIte,Na,Nb,Nc,Nk,Nf,Ng,Nh,Za,Zb,Zc,TT, DB]
          refine hY ?_;clear hX hY X Y
          refine awp_skip ?_
          refine hK4 _ _ ?_;clear hK4 K4
          refine wK fun K5 hK5 => ?_
          refine wS fun K hK => ?_
          simp only [↓DN,UP,DF,Qa,Qb,Qc,Qd,Qe,Qf,Qg,Qh,reduceCtorEq,↓reduceIte,Na,Nb,Nc,Nk,Nf,Ng,Nh,Za,Zb,Zc,TT]
          refine acallk (foldRest_calls a.kind 3 (by decide) (by decide) _) ?_
          rintro r s5 ⟨k, rfl, hk, rfl⟩
          simp only [↓AXq_nil,↓AXq_cons,pval,DX,Nat.reduceBEq,↓DN,UP,DF,Qa,Qb,Qc,Qd,Qe,Qf,Qg,Qh,reduceCtorEq,↓reduceIte,Na,Nb,Nc,Nk,Nf,Ng,Nh,Za,Zb,Zc,TT]
          refine hK _ _ ?_;clear hK K
          have hJ : ∀ (E : Env) (s5 : AS) (Tr : List NodeV) (n o cap : Nat) (rest : List AV), FoldOk Tr n → E 6 = .v (.int .i64 i) → E 0 = .sl 4 l.length X .any → E 3 = .sl 5 Tr.length (rowC NodeV.cells Tr) .any → E 5 = .osl o 0 1 n cap → s5.objs o = some (nmC Tr n ++ rest) → rest.length = cap - n → n ≤ cap → cap < 2 ^ 63 → K5 E s5 := by
            intro E s5 Tr n o cap rest hF g6 g0 g3 g5 hobj hrl hcap h63
            refine hK5 _ _ ?_;clear hK5 K5
            have hme := fun s => members20_calls (Γ := Γ) hG Tr (fold_W hF.right) s
            have hM : membersT Tr = memL Tr n := by unfold membersT; rw [if_pos hF.right]; exact memL_all hF.out
            rw [hM] at hme
            have hn32 := hF.len
            have hRl : (nmC Tr n ++ rest).length = n + rest.length := by rw [List.length_append, nmC_len]
            have hnm := fun (k : Nat) (h : k < n) => nmC_at Tr h rest
            have hnil := fun (k : Nat) => nameAt_nil hF.right k
            have hget := fun (k : Nat) (h : k < n) (hm : memI Tr (k : Int)) => memL_get (t := Tr) h hm
            have hsk := fun (k : Nat) (h : ¬ memI Tr (k : Int)) => memL_skip (t := Tr) h
            have hmo := fun (k : Nat) (h : memI Tr (k : Int)) => memL_more (t := Tr) h
            have hnmm := fun (k : Nat) (h : memI Tr (k : Int)) => show nameAt Tr k = (nd Tr (2 * k)).name from if_pos h
            have hMl := fun (k : Nat) => memL_len Tr k
            have hML := fun (k : Nat) (h : k < (memL Tr n).length) => row_at (c := ListedV.cells) (k := 2) (fun _ => rfl) h
            unfold listV treeV at hme
            generalize hR : nmC Tr n ++ rest = R at *
            generalize hMg : memL Tr n = M at *
            generalize rowC ListedV.cells M = MC at *
            refine wS fun K hK => ?_
            simp only [↓DN,UP,DF,Qa,Qb,Qc,Qd,Qe,Qf,Qg,Qh,reduceCtorEq,↓reduceIte,Na,Nb,Nc,Nk,Nf,Ng,Nh,Za,Zb,Zc,TT, g3]
            refine acallk (hme _) ?_
            rintro r s6 ⟨rfl, rfl⟩
            simp only [↓AXq_nil,↓AXq_cons,pval,DX,Nat.reduceBEq,↓DN,UP,DF,Qa,Qb,Qc,Qd,Qe,Qf,Qg,Qh,reduceCtorEq,↓reduceIte,Na,Nb,Nc,Nk,Nf,Ng,Nh,Za,Zb,Zc,TT]
            refine hK _ _ ?_;clear hK K
            refine wS fun K hK => ?_
            simp only [↓DN,UP,DF,Qa,Qb,Qc,Qd,Qe,Qf,Qg,Qh,reduceCtorEq,↓reduceIte,Na,Nb,Nc,Nk,Nf,Ng,Nh,Za,Zb,Zc,TT]
            refine hK _ _ ?_;clear hK K
            refine wK fun K6 hK6 => ?_
            refine wS fun K hK => ?_
            simp only [↓DN,UP,DF,Qa,Qb,Qc,Qd,Qe,Qf,Qg,Qh,reduceCtorEq,↓reduceIte,Na,Nb,Nc,Nk,Nf,Ng,Nh,Za,Zb,Zc,TT]
            refine hK _ _ ?_;clear hK K
            refine awp_block ?_
            refine awp_loop (fun E s7 => ∃ k : Nat, k ≤ n ∧ E 18 = .v (.int .i64 k) ∧ E 17 = .v (.int .i64 (memL Tr k).length) ∧ E 16 = .sl 2 M.length MC .any ∧ E 5 = .osl o 0 1 n cap ∧ E 6 = .v (.int .i64 i) ∧ E 0 = .sl 4 l.length X .any ∧ E 3 = .sl 5 Tr.length (rowC NodeV.cells Tr) .any ∧ s7 = s6)
              (fun E _ => match E 18 with | .v (.int _ i) => n - i.toNat | _ => 0) ?_ ?_
            · exact ⟨0, Nat.zero_le _, by simp only [upd, Nc, ↓reduceIte]; rfl, by simp only [upd, Nc, ↓reduceIte]; rfl, by simp only [upd, Nc, ↓reduceIte], by simp only [upd, g5, Nc, ↓reduceIte], by simp only [upd, g6, Nc, ↓reduceIte], by simp only [upd, g0, Nc, ↓reduceIte], by simp only [upd, g3, Nc, ↓reduceIte], rfl⟩
            · rintro E1 s7 ⟨k, hk, g18, g17, g16, g5, g6, g0, g3, rfl⟩ -
              by_cases hk' : k < n
              · refine wK fun K2 hK2 => ?_
                refine wS fun K hK => ?_
                simp only [↓DN,UP,DF,Qa,Qb,Qc,Qd,Qe,Qf,Qg,Qh,reduceCtorEq,↓reduceIte,Na,Nb,Nc,Nk,Nf,Ng,Nh,Za,Zb,Zc,TT, g18, g5, eye_lt_nat, decide_eq_true hk']
                refine hK _ _ ?_;clear hK K
                refine wC fun X Y hX hY => ?_
                simp only [↓DN,UP,DF,Qa,Qb,Qc,Qd,Qe,Qf,Qg,Qh,reduceCtorEq,↓reduceIte,Na,Nb,Nc,Nk,Nf,Ng,Nh,Za,Zb,Zc,TT, DB]
                refine hX ?_;clear hX hY X Y
                refine awp_skip ?_
                refine hK2 _ _ ?_;clear hK2 K2
                refine wK fun K3 hK3 => ?_
                refine awp_block ?_
                have hgek : (0 : Int) ≤ ((k : Nat) : Int) := by omega
                have hk0 := hnm k hk'
                unfold strC at hk0
                refine wK fun K7 hK7 => ?_
                by_cases hm : memI Tr (k : Int)
                · have hne : nameAt Tr k ≠ [] := fun e => (hnil k).1 e hm
                  have hne' : (nameAt Tr k == ([] : List UInt8)) = false := by simpa using hne
                  refine wS fun K hK => ?_
                  simp only [↓DN,UP,DF,Qa,Qb,Qc,Qd,Qe,Qf,Qg,Qh,reduceCtorEq,↓reduceIte,Na,Nb,Nc,Nk,Nf,Ng,Nh,Za,Zb,Zc,TT, g5, g18, hobj, hgek, hk', eye_lt_nat, hk0, hne', List.toList_toArray]
                  refine hK _ _ ?_;clear hK K
                  refine wC fun X Y hX hY => ?_
                  simp only [↓DN,UP,DF,Qa,Qb,Qc,Qd,Qe,Qf,Qg,Qh,reduceCtorEq,↓reduceIte,Na,Nb,Nc,Nk,Nf,Ng,Nh,Za,Zb,Zc,TT, DB]
                  refine hY ?_;clear hX hY X Y
                  refine awp_skip ?_
                  refine hK7 _ _ ?_;clear hK7 K7
                  refine wK fun K8 hK8 => ?_
                  have hg := hget k hk' hm
                  have hmo' := hmo k hm
                  have hnk := hnmm k hm
                  obtain ⟨hlt, hg⟩ := List.getElem?_eq_some_iff.1 hg
                  have hMk := hML _ hlt
                  rw [hg] at hMk
                  unfold ListedV.cells at hMk
                  simp only at hMk
                  rw [← hnk] at hMk
                  have hml := hMl k
                  generalize hm0 : (memL Tr k).length = m at *
                  have hgem : (0 : Int) ≤ ((m : Nat) : Int) := by omega
                  have hnge : decide (((M.length : Nat) : Int) ≤ ((m : Nat) : Int)) = false := decide_eq_false (by omega)
                  have hkk : (((k : Nat) : Int) != ((k : Nat) : Int)) = false := by simp
                  have hss : ((nameAt Tr k) != (nameAt Tr k)) = false := by simp
                  generalize nameAt Tr k = nm at *
                  refine awp_drw_seq T.mixed [23] (by kernel_rfl) ?_
                  intro K hK
                  simp only [↓AXq_nil,↓AXq_cons,pval,DX,Nat.reduceBEq,↓DN,UP,DF,Qa,Qb,Qc,Qd,Qe,Qf,Qg,Qh,reduceCtorEq,↓reduceIte,Na,Nb,Nc,Nk,Nf,Ng,Nh,Za,Zb,Zc,TT, g17, g16, g5, g18, hobj, hgem, hgek, hk', hlt, eye_lt_nat, hMk, hk0, hnge, hkk, hss, List.toList_toArray]
                  refine hK _ _ ?_;clear hK K
                  refine wC fun X Y hX hY => ?_
                  simp only [↓DN,UP,DF,Qa,Qb,Qc,Qd,Qe,Qf,Qg,Qh,reduceCtorEq,↓reduceIte,Na,Nb,Nc,Nk,Nf,Ng,Nh,Za,Zb,Zc,TT, DB]
                  refine hY ?_;clear hX hY X Y
                  refine awp_skip ?_
                  refine hK8 _ _ ?_;clear hK8 K8
                  clear hg hMk hlt hgem hnge
                  refine wE fun K hK => ?_
                  simp only [↓DN,UP,DF,Qa,Qb,Qc,Qd,Qe,Qf,Qg,Qh,reduceCtorEq,↓reduceIte,Na,Nb,Nc,Nk,Nf,Ng,Nh,Za,Zb,Zc,TT, g17, eye_succM m (by omega)]
                  refine hK _ _ ?_;clear hK K
                  refine hK3 _ _ ?_;clear hK3 K3
                  refine wE fun K hK => ?_
                  simp only [↓DN,UP,DF,Qa,Qb,Qc,Qd,Qe,Qf,Qg,Qh,reduceCtorEq,↓reduceIte,Na,Nb,Nc,Nk,Nf,Ng,Nh,Za,Zb,Zc,TT, g18, eye_succM k (by omega)]
                  refine hK _ _ ?_;clear hK K
                  refine ⟨⟨k + 1, by omega, by simp only [upd, Nc, ↓reduceIte], by rw [hmo']; exact (by simp only [upd, Nc, ↓reduceIte]), by simp only [upd, g16, Nc, ↓reduceIte], by simp only [upd, g5, Nc, ↓reduceIte], by simp only [upd, g6, Nc, ↓reduceIte], by simp only [upd, g0, Nc, ↓reduceIte], by simp only [upd, g3, Nc, ↓reduceIte], rfl⟩, ?_⟩
                  simp only [g18, upd, ↓reduceIte]
                  omega
                · have hne : nameAt Tr k = [] := (hnil k).2 hm
                  rw [hne] at hk0
                  refine wS fun K hK => ?_
                  simp only [↓DN,UP,DF,Qa,Qb,Qc,Qd,Qe,Qf,Qg,Qh,reduceCtorEq,↓reduceIte,Na,Nb,Nc,Nk,Nf,Ng,Nh,Za,Zb,Zc,TT, g5, g18, hobj, hgek, hk', eye_lt_nat, hk0, List.toList_toArray, show (([] : List UInt8) == []) = true from rfl]
                  refine hK _ _ ?_;clear hK K
                  refine wC fun X Y hX hY => ?_
                  simp only [↓DN,UP,DF,Qa,Qb,Qc,Qd,Qe,Qf,Qg,Qh,reduceCtorEq,↓reduceIte,Na,Nb,Nc,Nk,Nf,Ng,Nh,Za,Zb,Zc,TT, DB]
                  refine hX ?_;clear hX hY X Y
                  refine awp_exit ?_
                  simp only [thenQ, blockQ, if_true]
                  refine hK3 _ _ ?_;clear hK3 K3 hK7 K7
                  have hs := hsk k hm
                  refine wE fun K hK => ?_
                  simp only [↓DN,UP,DF,Qa,Qb,Qc,Qd,Qe,Qf,Qg,Qh,reduceCtorEq,↓reduceIte,Na,Nb,Nc,Nk,Nf,Ng,Nh,Za,Zb,Zc,TT, g18, eye_succM k (by omega)]
                  refine hK _ _ ?_;clear hK K
                  refine ⟨⟨k + 1, by omega, by simp only [upd, Nc, ↓reduceIte], by rw [hs]; exact (by simp only [upd, g17, Nc, ↓reduceIte]), by simp only [upd, g16, Nc, ↓reduceIte], by simp only [upd, g5, Nc, ↓reduceIte], by simp only [upd, g6, Nc, ↓reduceIte], by simp only [upd, g0, Nc, ↓reduceIte], by simp only [upd, g3, Nc, ↓reduceIte], rfl⟩, ?_⟩
                  simp only [g18, upd, ↓reduceIte]
                  omega
              · refine wK fun K2 hK2 => ?_
                refine wS fun K hK => ?_
                simp only [↓DN,UP,DF,Qa,Qb,Qc,Qd,Qe,Qf,Qg,Qh,reduceCtorEq,↓reduceIte,Na,Nb,Nc,Nk,Nf,Ng,Nh,Za,Zb,Zc,TT, g18, g5, eye_lt_nat, decide_eq_false hk']
                refine hK _ _ ?_;clear hK K
                refine wC fun X Y hX hY => ?_
                simp only [↓DN,UP,DF,Qa,Qb,Qc,Qd,Qe,Qf,Qg,Qh,reduceCtorEq,↓reduceIte,Na,Nb,Nc,Nk,Nf,Ng,Nh,Za,Zb,Zc,TT, DB]
                refine hY ?_;clear hX hY X Y
                refine awp_exit ?_
                simp only [thenQ, blockQ, if_true]
                refine hK6 _ _ ?_;clear hK6 hK2 K2 K6
                obtain rfl : k = n := by omega
                rw [hMg] at g17
                have hmm : (((M.length : Nat) : Int) != ((M.length : Nat) : Int)) = false := by simp
                refine wS fun K hK => ?_
                simp only [↓DN,UP,DF,Qa,Qb,Qc,Qd,Qe,Qf,Qg,Qh,reduceCtorEq,↓reduceIte,Na,Nb,Nc,Nk,Nf,Ng,Nh,Za,Zb,Zc,TT, g17, g16, hmm]
                refine hK _ _ ?_;clear hK K
                refine wC fun X Y hX hY => ?_
                simp only [↓DN,UP,DF,Qa,Qb,Qc,Qd,Qe,Qf,Qg,Qh,reduceCtorEq,↓reduceIte,Na,Nb,Nc,Nk,Nf,Ng,Nh,Za,Zb,Zc,TT, DB]
                refine hY ?_;clear hX hY X Y
                refine awp_skip ?_
                exact hstep _ _ Tr k o cap rest hF (by simp only [upd, g6, Nc, ↓reduceIte]) (by simp only [upd, g0, Nc, ↓reduceIte]) (by simp only [upd, g3, Nc, ↓reduceIte]) (by simp only [upd, g5, Nc, ↓reduceIte]) (by rw [hR]; exact hobj) hrl hcap h63
          clear hK5
          refine awp_block ?_
          obtain ⟨akind, aleaf, aname, akey⟩ := a
          simp only at *
          obtain rfl | rfl | rfl : k = 0 ∨ k = 1 ∨ k = 2 := by omega
          · have had := fun s => ACalls.tidy (add20_calls (Γ := Γ) hG Tr (fold_W hF.right) aname akey (by omega) s)
            have hcase := fold_add hF aname akey
            unfold bytesV at had
            refine wS fun K hK => ?_
            simp only [↓DN,UP,DF,Qa,Qb,Qc,Qd,Qe,Qf,Qg,Qh,reduceCtorEq,↓reduceIte,Na,Nb,Nc,Nk,Nf,Ng,Nh,Za,Zb,Zc,TT, show (((0 : Nat) : Int) == 0) = true from rfl]
            refine hK _ _ ?_;clear hK K
            refine wC fun X Y hX hY => ?_
            simp only [↓DN,UP,DF,Qa,Qb,Qc,Qd,Qe,Qf,Qg,Qh,reduceCtorEq,↓reduceIte,Na,Nb,Nc,Nk,Nf,Ng,Nh,Za,Zb,Zc,TT, DB]
            refine hX ?_;clear hX hY X Y
            rcases hcase with hne | ⟨t', v, he, hv32, hv1, hv2, hv3, hn'⟩
            · generalize treeN (addR Tr aname akey).1 = tn at *
              generalize (addR Tr aname akey).2.1 = vv at *
              generalize (addR Tr aname akey).2.2 = er at *
              have hne' : (er != 0) = true := bne_iff_ne.2 hne
              unfold treeV at had
              refine wS fun K hK => ?_
              simp only [↓DN,UP,DF,Qa,Qb,Qc,Qd,Qe,Qf,Qg,Qh,reduceCtorEq,↓reduceIte,Na,Nb,Nc,Nk,Nf,Ng,Nh,Za,Zb,Zc,TT, g3]
              refine acallk (had _) ?_
              rintro r s6 ⟨rfl, rfl⟩
              simp only [↓AXq_nil,↓AXq_cons,pval,DX,Nat.reduceBEq,↓DN,UP,DF,Qa,Qb,Qc,Qd,Qe,Qf,Qg,Qh,reduceCtorEq,↓reduceIte,Na,Nb,Nc,Nk,Nf,Ng,Nh,Za,Zb,Zc,TT]
              refine hK _ _ ?_;clear hK K
              refine wK fun K7 hK7 => ?_
              refine wS fun K hK => ?_
              simp only [↓DN,UP,DF,Qa,Qb,Qc,Qd,Qe,Qf,Qg,Qh,reduceCtorEq,↓reduceIte,Na,Nb,Nc,Nk,Nf,Ng,Nh,Za,Zb,Zc,TT, hne']
              refine hK _ _ ?_;clear hK K
              refine wC fun X Y hX hY => ?_
              simp only [↓DN,UP,DF,Qa,Qb,Qc,Qd,Qe,Qf,Qg,Qh,reduceCtorEq,↓reduceIte,Na,Nb,Nc,Nk,Nf,Ng,Nh,Za,Zb,Zc,TT, DB]
              refine hX ?_;clear hX hY X Y
              refine awp_exit ?_
              simp only [thenQ, blockQ, if_true, if_false, Nc]
              exact hstep _ _ Tr n o cap rest hF (by simp only [upd, g6, Nc, ↓reduceIte]) (by simp only [upd, g0, Nc, ↓reduceIte]) (by simp only [upd, g3, Nc, ↓reduceIte]) (by simp only [upd, g5, Nc, ↓reduceIte]) hobj hrl hcap h63
            · rw [he] at had
              simp only at had
              rw [treeN_ne (right_ne (hv3 32 hF.len hv32 (Nat.le_refl _)).right)] at had
              unfold treeV at had
              have hnil := fun (k : Nat) => nameAt_nil hF.right k
              have hn32 := hF.len
              refine wS fun K hK => ?_
              simp only [↓DN,UP,DF,Qa,Qb,Qc,Qd,Qe,Qf,Qg,Qh,reduceCtorEq,↓reduceIte,Na,Nb,Nc,Nk,Nf,Ng,Nh,Za,Zb,Zc,TT, g3]
              refine acallk (had _) ?_
              rintro r s6 ⟨rfl, rfl⟩
              simp only [↓AXq_nil,↓AXq_cons,pval,DX,Nat.reduceBEq,↓DN,UP,DF,Qa,Qb,Qc,Qd,Qe,Qf,Qg,Qh,reduceCtorEq,↓reduceIte,Na,Nb,Nc,Nk,Nf,Ng,Nh,Za,Zb,Zc,TT]
              refine hK _ _ ?_;clear hK K
              refine wK fun K7 hK7 => ?_
              refine wS fun K hK => ?_
              simp only [↓DN,UP,DF,Qa,Qb,Qc,Qd,Qe,Qf,Qg,Qh,reduceCtorEq,↓reduceIte,Na,Nb,Nc,Nk,Nf,Ng,Nh,Za,Zb,Zc,TT, show ((0 : Int) != 0) = false from rfl]
              refine hK _ _ ?_;clear hK K
              refine wC fun X Y hX hY => ?_
              simp only [↓DN,UP,DF,Qa,Qb,Qc,Qd,Qe,Qf,Qg,Qh,reduceCtorEq,↓reduceIte,Na,Nb,Nc,Nk,Nf,Ng,Nh,Za,Zb,Zc,TT, DB]
              refine hY ?_;clear hX hY X Y
              refine awp_skip ?_
              refine hK7 _ _ ?_;clear hK7 K7
              refine wK fun K7 hK7 => ?_
              refine awp_block ?_
              clear he had
              refine awp_loop (fun E s7 => ∃ (m o cap : Nat) (rest : List AV), n ≤ m ∧ m ≤ 32 ∧ E 5 = .osl o 0 1 m cap ∧ s7.objs o = some (nmC Tr m ++ rest) ∧ rest.length = cap - m ∧ m ≤ cap ∧ cap < 2 ^ 63 ∧ E 9 = .v (.int .i64 v) ∧ E 8 = .sl 5 t'.length (rowC NodeV.cells t') .any ∧ E 7 = .rop [AV.v (Value.int IntKind.i64 akind), AV.v (Value.int IntKind.i64 aleaf), AV.sl 1 aname.length (List.map byteV aname) Sp.any, AV.v (Value.int IntKind.u64 ↑akey)] ∧ E 6 = .v (.int .i64 i) ∧ E 0 = .sl 4 l.length X .any)
                (fun E _ => match E 5 with | .osl _ _ _ m _ => v + 1 - m | _ => 0) ?_ ?_
              · exact ⟨n, o, cap, rest, Nat.le_refl _, hn32, by simp only [upd, g5, Nc, ↓reduceIte], hobj, hrl, hcap, h63, by simp only [upd, Nc, ↓reduceIte], by simp only [upd, Nc, ↓reduceIte], by simp only [upd, Nc, ↓reduceIte], by simp only [upd, g6, Nc, ↓reduceIte], by simp only [upd, g0, Nc, ↓reduceIte]⟩
              · rintro E1 s7 ⟨m, o, cap, rest, hnm, hm32, g5, hobj, hrl, hcap, h63, g9, g8, g7, g6, g0⟩ -
                by_cases hmv : m ≤ v
                · refine wK fun K2 hK2 => ?_
                  refine wS fun K hK => ?_
                  simp only [↓DN,UP,DF,Qa,Qb,Qc,Qd,Qe,Qf,Qg,Qh,reduceCtorEq,↓reduceIte,Na,Nb,Nc,Nk,Nf,Ng,Nh,Za,Zb,Zc,TT, g5, g9, decide_eq_true (show ((m : Nat) : Int) ≤ ((v : Nat) : Int) by omega)]
                  refine hK _ _ ?_;clear hK K
                  refine wC fun X Y hX hY => ?_
                  simp only [↓DN,UP,DF,Qa,Qb,Qc,Qd,Qe,Qf,Qg,Qh,reduceCtorEq,↓reduceIte,Na,Nb,Nc,Nk,Nf,Ng,Nh,Za,Zb,Zc,TT, DB]
                  refine hX ?_;clear hX hY X Y
                  refine awp_skip ?_
                  refine hK2 _ _ ?_;clear hK2 K2
                  refine awp_block ?_
                  refine awp_region_at2 rfl (by simp only [Option.some.injEq, forall_eq']; decide) ?_
                  intro ops
                  simp only [↓AXq_nil,↓AXq_cons,pval,DX,Nat.reduceBEq,↓DN,UP,DF,Qa,Qb,Qc,Qd,Qe,Qf,Qg,Qh,reduceCtorEq,↓reduceIte,Na,Nb,Nc,Nk,Nf,Ng,Nh,Za,Zb,Zc,TT, g5]
                  have hnm1 := nmC_more (t := Tr) (n := m) (fun k hk => hF.out k (by omega))
                  refine ⟨_, fun G a w hr => append_own_res (n := m) (m := 1) (cs := nmC Tr m) (ds := [strC []]) (e := 9) rfl Tryd.underlying30 (by simp only [↓DN,UP,DF,Qa,Qb,Qc,Qd,Qe,Qf,Qg,Qh,reduceCtorEq,↓reduceIte,Na,Nb,Nc,Nk,Nf,Ng,Nh,Za,Zb,Zc,TT]; try rfl) T.z9 (by rw [T.c9]; decide) (by rw [T.c9]; rfl) (by rw [T.c9]; simp only [↓DN,UP,DF,Qa,Qb,Qc,Qd,Qe,Qf,Qg,Qh,reduceCtorEq,↓reduceIte,Na,Nb,Nc,Nk,Nf,Ng,Nh,Za,Zb,Zc,TT, asrc, aeval, upd, Nc, ↓reduceIte]; rfl) (by decide) (by rw [T.b9]; omega) (by omega) (by rfl) (by rw [T.c9]; simp only [aeval, upd, Nc, ↓reduceIte]; exact .inr ⟨o, cap, rest, rfl, hobj, by rw [nmC_len, Nat.mul_one], by rw [hrl, Nat.mul_one], hcap, h63⟩) hr.eval hr.st, ?_⟩
                  rw [T.c9]
                  rintro r s8 ⟨ob2, cap2, rest2, rfl, hcap2, h632, hrl2, _, rfl⟩
                  simp only [↓AXq_nil,↓AXq_cons,pval,DX,Nat.reduceBEq,↓DN,UP,DF,Qa,Qb,Qc,Qd,Qe,Qf,Qg,Qh,reduceCtorEq,↓reduceIte,Na,Nb,Nc,Nk,Nf,Ng,Nh,Za,Zb,Zc,TT]
                  refine ⟨⟨m + 1, ob2, cap2, rest2, by omega, by omega, by simp only [upd, Nc, ↓reduceIte], by rw [← hnm1]; first | rfl | (rw [AS.set_objs_same]) | (simp only [↓reduceIte, List.append_assoc, List.singleton_append]), by omega, hcap2, h632, by simp only [upd, g9, Nc, ↓reduceIte], by simp only [upd, g8, Nc, ↓reduceIte], by simp only [upd, g7, Nc, ↓reduceIte], by simp only [upd, g6, Nc, ↓reduceIte], by simp only [upd, g0, Nc, ↓reduceIte]⟩, ?_⟩
                  try simp only [g5, upd, ↓reduceIte]
                  omega
                · refine wK fun K2 hK2 => ?_
                  refine wS fun K hK => ?_
                  simp only [↓DN,UP,DF,Qa,Qb,Qc,Qd,Qe,Qf,Qg,Qh,reduceCtorEq,↓reduceIte,Na,Nb,Nc,Nk,Nf,Ng,Nh,Za,Zb,Zc,TT, g5, g9, decide_eq_false (show ¬ ((m : Nat) : Int) ≤ ((v : Nat) : Int) by omega)]
                  refine hK _ _ ?_;clear hK K
                  refine wC fun X Y hX hY => ?_
                  simp only [↓DN,UP,DF,Qa,Qb,Qc,Qd,Qe,Qf,Qg,Qh,reduceCtorEq,↓reduceIte,Na,Nb,Nc,Nk,Nf,Ng,Nh,Za,Zb,Zc,TT, DB]
                  refine hY ?_;clear hX hY X Y
                  refine awp_exit ?_
                  simp only [thenQ, blockQ, if_true]
                  refine hK7 _ _ ?_;clear hK7 hK2 K2 K7
                  refine wK fun K7 hK7 => ?_
                  refine wS fun K hK => ?_
                  simp only [↓DN,UP,DF,Qa,Qb,Qc,Qd,Qe,Qf,Qg,Qh,reduceCtorEq,↓reduceIte,Na,Nb,Nc,Nk,Nf,Ng,Nh,Za,Zb,Zc,TT]
                  refine hK _ _ ?_;clear hK K
                  refine awp_block ?_
                  have hnmA := fun (k : Nat) (h : k < m) => nmC_at Tr h rest
                  have hRl : (nmC Tr m ++ rest).length = m + rest.length := by rw [List.length_append, nmC_len]
                  have hset := nmC_set (show v < m by omega) hn' rest
                  have hvn := (hnil v).2 hv2
                  have hF2 := hv3 m hnm (by omega) hm32
                  unfold strC at hset
                  simp only [asetAll] at hset
                  generalize hR : nmC Tr m ++ rest = R at *
                  refine awp_loop (fun E s8 => ∃ k : Nat, k ≤ v ∧ E 11 = .v (.int .i64 k) ∧ E 5 = .osl o 0 1 m cap ∧ E 9 = .v (.int .i64 v) ∧ E 8 = .sl 5 t'.length (rowC NodeV.cells t') .any ∧ E 7 = .rop [AV.v (Value.int IntKind.i64 akind), AV.v (Value.int IntKind.i64 aleaf), AV.sl 1 aname.length (List.map byteV aname) Sp.any, AV.v (Value.int IntKind.u64 ↑akey)] ∧ E 6 = .v (.int .i64 i) ∧ E 0 = .sl 4 l.length X .any ∧ s8 = s7)
                    (fun E _ => match E 11 with | .v (.int _ k) => v - k.toNat | _ => 0) ?_ ?_
                  · exact ⟨0, Nat.zero_le _, by simp only [upd, Nc, ↓reduceIte]; rfl, by simp only [upd, g5, Nc, ↓reduceIte], by simp only [upd, g9, Nc, ↓reduceIte], by simp only [upd, g8, Nc, ↓reduceIte], by simp only [upd, g7, Nc, ↓reduceIte], by simp only [upd, g6, Nc, ↓reduceIte], by simp only [upd, g0, Nc, ↓reduceIte], rfl⟩
                  · rintro E2 s8 ⟨k, hk, g11, g5, g9, g8, g7, g6, g0, rfl⟩ -
                    by_cases hkv : k < v
                    · have hne : nameAt Tr k ≠ [] := fun e => (hnil k).1 e (hv1 k hkv)
                      have hne' : (nameAt Tr k == ([] : List UInt8)) = false := by simpa using hne
                      have hk0 := hnmA k (by omega)
                      have hkm : k < m := by omega
                      have hgek : (0 : Int) ≤ ((k : Nat) : Int) := by omega
                      unfold strC at hk0
                      refine wK fun K2 hK2 => ?_
                      refine wS fun K hK => ?_
                      simp only [↓DN,UP,DF,Qa,Qb,Qc,Qd,Qe,Qf,Qg,Qh,reduceCtorEq,↓reduceIte,Na,Nb,Nc,Nk,Nf,Ng,Nh,Za,Zb,Zc,TT, g11, g9, eye_lt_nat, decide_eq_true hkv]
                      refine hK _ _ ?_;clear hK K
                      refine wC fun X Y hX hY => ?_
                      simp only [↓DN,UP,DF,Qa,Qb,Qc,Qd,Qe,Qf,Qg,Qh,reduceCtorEq,↓reduceIte,Na,Nb,Nc,Nk,Nf,Ng,Nh,Za,Zb,Zc,TT, DB]
                      refine hX ?_;clear hX hY X Y
                      refine awp_skip ?_
                      refine hK2 _ _ ?_;clear hK2 K2
                      refine wK fun K2 hK2 => ?_
                      refine awp_block ?_
                      refine wS fun K hK => ?_
                      simp only [↓DN,UP,DF,Qa,Qb,Qc,Qd,Qe,Qf,Qg,Qh,reduceCtorEq,↓reduceIte,Na,Nb,Nc,Nk,Nf,Ng,Nh,Za,Zb,Zc,TT, g5, g11, hobj, hgek, hkm, eye_lt_nat, hk0, hne', List.toList_toArray]
                      refine hK _ _ ?_;clear hK K
                      refine wC fun X Y hX hY => ?_
                      simp only [↓DN,UP,DF,Qa,Qb,Qc,Qd,Qe,Qf,Qg,Qh,reduceCtorEq,↓reduceIte,Na,Nb,Nc,Nk,Nf,Ng,Nh,Za,Zb,Zc,TT, DB]
                      refine hY ?_;clear hX hY X Y
                      refine awp_skip ?_
                      refine hK2 _ _ ?_;clear hK2 K2
                      refine wE fun K hK => ?_
                      simp only [↓DN,UP,DF,Qa,Qb,Qc,Qd,Qe,Qf,Qg,Qh,reduceCtorEq,↓reduceIte,Na,Nb,Nc,Nk,Nf,Ng,Nh,Za,Zb,Zc,TT, g11, eye_succM k (by omega)]
                      refine hK _ _ ?_;clear hK K
                      refine ⟨⟨k + 1, by omega, by simp only [upd, Nc, ↓reduceIte], by simp only [upd, g5, Nc, ↓reduceIte], by simp only [upd, g9, Nc, ↓reduceIte], by simp only [upd, g8, Nc, ↓reduceIte], by simp only [upd, g7, Nc, ↓reduceIte], by simp only [upd, g6, Nc, ↓reduceIte], by simp only [upd, g0, Nc, ↓reduceIte], rfl⟩, ?_⟩
                      simp only [g11, upd, ↓reduceIte]
                      omega
                    · refine wK fun K2 hK2 => ?_
                      refine wS fun K hK => ?_
                      simp only [↓DN,UP,DF,Qa,Qb,Qc,Qd,Qe,Qf,Qg,Qh,reduceCtorEq,↓reduceIte,Na,Nb,Nc,Nk,Nf,Ng,Nh,Za,Zb,Zc,TT, g11, g9, eye_lt_nat, decide_eq_false hkv]
                      refine hK _ _ ?_;clear hK K
                      refine wC fun X Y hX hY => ?_
                      simp only [↓DN,UP,DF,Qa,Qb,Qc,Qd,Qe,Qf,Qg,Qh,reduceCtorEq,↓reduceIte,Na,Nb,Nc,Nk,Nf,Ng,Nh,Za,Zb,Zc,TT, DB]
                      refine hY ?_;clear hX hY X Y
                      refine awp_exit ?_
                      simp only [thenQ, blockQ, if_true]
                      refine hK7 _ _ ?_;clear hK7 hK2 K2 K7
                      have hk0 := hnmA v (by omega)
                      have hkm : v < m := by omega
                      have hgek : (0 : Int) ≤ ((v : Nat) : Int) := by omega
                      rw [hvn] at hk0
                      unfold strC at hk0
                      refine wK fun K2 hK2 => ?_
                      refine wS fun K hK => ?_
                      simp only [↓DN,UP,DF,Qa,Qb,Qc,Qd,Qe,Qf,Qg,Qh,reduceCtorEq,↓reduceIte,Na,Nb,Nc,Nk,Nf,Ng,Nh,Za,Zb,Zc,TT, g5, g9, hobj, hgek, hkm, eye_lt_nat, hk0, List.toList_toArray, show (([] : List UInt8) != []) = false from rfl]
                      refine hK _ _ ?_;clear hK K
                      refine wC fun X Y hX hY => ?_
                      simp only [↓DN,UP,DF,Qa,Qb,Qc,Qd,Qe,Qf,Qg,Qh,reduceCtorEq,↓reduceIte,Na,Nb,Nc,Nk,Nf,Ng,Nh,Za,Zb,Zc,TT, DB]
                      refine hY ?_;clear hX hY X Y
                      refine awp_skip ?_
                      refine hK2 _ _ ?_;clear hK2 K2
                      refine wS fun K hK => ?_
                      simp only [↓DN,UP,DF,Qa,Qb,Qc,Qd,Qe,Qf,Qg,Qh,reduceCtorEq,↓reduceIte,Na,Nb,Nc,Nk,Nf,Ng,Nh,Za,Zb,Zc,TT, g5, g9, g7, hobj, hgek, hkm, eye_lt_nat]
                      refine ⟨by omega, hK _ _ ?_⟩
                      clear hK K
                      refine wE fun K hK => ?_
                      simp only [↓DN,UP,DF,Qa,Qb,Qc,Qd,Qe,Qf,Qg,Qh,reduceCtorEq,↓reduceIte,Na,Nb,Nc,Nk,Nf,Ng,Nh,Za,Zb,Zc,TT, g8]
                      refine hK _ _ ?_;clear hK K
                      refine hJ _ _ t' m o cap rest hF2 (by simp only [upd, g6, Nc, ↓reduceIte]) (by simp only [upd, g0, Nc, ↓reduceIte]) (by simp only [upd, Nc, ↓reduceIte]) (by simp only [upd, g5, Nc, ↓reduceIte]) ?_ hrl hcap h63
                      rw [AS.set_objs_same]
                      exact congrArg some hset
          · have hup := fun s => ACalls.tidy (update20_calls (Γ := Γ) hG Tr (fold_W hF.right) aleaf akey s)
            have hcase := fold_upd hF aleaf akey
            refine wS fun K hK => ?_
            simp only [↓DN,UP,DF,Qa,Qb,Qc,Qd,Qe,Qf,Qg,Qh,reduceCtorEq,↓reduceIte,Na,Nb,Nc,Nk,Nf,Ng,Nh,Za,Zb,Zc,TT, show (((1 : Nat) : Int) == 0) = false from rfl]
            refine hK _ _ ?_;clear hK K
            refine wC fun X Y hX hY => ?_
            simp only [↓DN,UP,DF,Qa,Qb,Qc,Qd,Qe,Qf,Qg,Qh,reduceCtorEq,↓reduceIte,Na,Nb,Nc,Nk,Nf,Ng,Nh,Za,Zb,Zc,TT, DB]
            refine hY ?_;clear hX hY X Y
            refine wS fun K hK => ?_
            simp only [↓DN,UP,DF,Qa,Qb,Qc,Qd,Qe,Qf,Qg,Qh,reduceCtorEq,↓reduceIte,Na,Nb,Nc,Nk,Nf,Ng,Nh,Za,Zb,Zc,TT, show (((1 : Nat) : Int) == 1) = true from rfl]
            refine hK _ _ ?_;clear hK K
            refine wC fun X Y hX hY => ?_
            simp only [↓DN,UP,DF,Qa,Qb,Qc,Qd,Qe,Qf,Qg,Qh,reduceCtorEq,↓reduceIte,Na,Nb,Nc,Nk,Nf,Ng,Nh,Za,Zb,Zc,TT, DB]
            refine hX ?_;clear hX hY X Y
            rcases hcase with hne | ⟨t', he, hF', hn'⟩
            · generalize treeN (updR Tr aleaf akey).1 = tn at *
              generalize (updR Tr aleaf akey).2 = er at *
              unfold treeV at hup
              refine wS fun K hK => ?_
              simp only [↓DN,UP,DF,Qa,Qb,Qc,Qd,Qe,Qf,Qg,Qh,reduceCtorEq,↓reduceIte,Na,Nb,Nc,Nk,Nf,Ng,Nh,Za,Zb,Zc,TT, g3]
              refine acallk (hup _) ?_
              rintro r s6 ⟨rfl, rfl⟩
              simp only [↓AXq_nil,↓AXq_cons,pval,DX,Nat.reduceBEq,↓DN,UP,DF,Qa,Qb,Qc,Qd,Qe,Qf,Qg,Qh,reduceCtorEq,↓reduceIte,Na,Nb,Nc,Nk,Nf,Ng,Nh,Za,Zb,Zc,TT]
              refine hK _ _ ?_;clear hK K
              refine wS fun K hK => ?_
              simp only [↓DN,UP,DF,Qa,Qb,Qc,Qd,Qe,Qf,Qg,Qh,reduceCtorEq,↓reduceIte,Na,Nb,Nc,Nk,Nf,Ng,Nh,Za,Zb,Zc,TT, beq_false_of_ne hne]
              refine hK _ _ ?_;clear hK K
              refine wC fun X Y hX hY => ?_
              simp only [↓DN,UP,DF,Qa,Qb,Qc,Qd,Qe,Qf,Qg,Qh,reduceCtorEq,↓reduceIte,Na,Nb,Nc,Nk,Nf,Ng,Nh,Za,Zb,Zc,TT, DB]
              refine hY ?_;clear hX hY X Y
              refine awp_skip ?_
              exact hJ _ _ Tr n o cap rest hF (by simp only [upd, g6, Nc, ↓reduceIte]) (by simp only [upd, g0, Nc, ↓reduceIte]) (by simp only [upd, g3, Nc, ↓reduceIte]) (by simp only [upd, g5, Nc, ↓reduceIte]) hobj hrl hcap h63
            · rw [he] at hup
              simp only at hup
              rw [treeN_ne (right_ne hF'.right)] at hup
              unfold treeV at hup
              refine wS fun K hK => ?_
              simp only [↓DN,UP,DF,Qa,Qb,Qc,Qd,Qe,Qf,Qg,Qh,reduceCtorEq,↓reduceIte,Na,Nb,Nc,Nk,Nf,Ng,Nh,Za,Zb,Zc,TT, g3]
              refine acallk (hup _) ?_
              rintro r s6 ⟨rfl, rfl⟩
              simp only [↓AXq_nil,↓AXq_cons,pval,DX,Nat.reduceBEq,↓DN,UP,DF,Qa,Qb,Qc,Qd,Qe,Qf,Qg,Qh,reduceCtorEq,↓reduceIte,Na,Nb,Nc,Nk,Nf,Ng,Nh,Za,Zb,Zc,TT]
              refine hK _ _ ?_;clear hK K
              refine wS fun K hK => ?_
              simp only [↓DN,UP,DF,Qa,Qb,Qc,Qd,Qe,Qf,Qg,Qh,reduceCtorEq,↓reduceIte,Na,Nb,Nc,Nk,Nf,Ng,Nh,Za,Zb,Zc,TT, show ((0 : Int) == 0) = true from rfl]
              refine hK _ _ ?_;clear hK K
              refine wC fun X Y hX hY => ?_
              simp only [↓DN,UP,DF,Qa,Qb,Qc,Qd,Qe,Qf,Qg,Qh,reduceCtorEq,↓reduceIte,Na,Nb,Nc,Nk,Nf,Ng,Nh,Za,Zb,Zc,TT, DB]
              refine hX ?_;clear hX hY X Y
              refine wE fun K hK => ?_
              simp only [↓DN,UP,DF,Qa,Qb,Qc,Qd,Qe,Qf,Qg,Qh,reduceCtorEq,↓reduceIte,Na,Nb,Nc,Nk,Nf,Ng,Nh,Za,Zb,Zc,TT]
              refine hK _ _ ?_;clear hK K
              refine hJ _ _ t' n o cap rest hF' (by simp only [upd, g6, Nc, ↓reduceIte]) (by simp only [upd, g0, Nc, ↓reduceIte]) (by simp only [upd, Nc, ↓reduceIte]) (by simp only [upd, g5, Nc, ↓reduceIte]) ?_ hrl hcap h63
              rw [nmC_same n hn']
              exact hobj
          · have hrm := fun s => ACalls.tidy (remove20_calls (Γ := Γ) hG Tr (fold_W hF.right) aleaf s)
            have hcase := fold_rm hF aleaf
            refine wS fun K hK => ?_
            simp only [↓DN,UP,DF,Qa,Qb,Qc,Qd,Qe,Qf,Qg,Qh,reduceCtorEq,↓reduceIte,Na,Nb,Nc,Nk,Nf,Ng,Nh,Za,Zb,Zc,TT, show (((2 : Nat) : Int) == 0) = false from rfl]
            refine hK _ _ ?_;clear hK K
            refine wC fun X Y hX hY => ?_
            simp only [↓DN,UP,DF,Qa,Qb,Qc,Qd,Qe,Qf,Qg,Qh,reduceCtorEq,↓reduceIte,Na,Nb,Nc,Nk,Nf,Ng,Nh,Za,Zb,Zc,TT, DB]
            refine hY ?_;clear hX hY X Y
            refine wS fun K hK => ?_
            simp only [↓DN,UP,DF,Qa,Qb,Qc,Qd,Qe,Qf,Qg,Qh,reduceCtorEq,↓reduceIte,Na,Nb,Nc,Nk,Nf,Ng,Nh,Za,Zb,Zc,TT, show (((2 : Nat) : Int) == 1) = false from rfl]
            refine hK _ _ ?_;clear hK K
            refine wC fun X Y hX hY => ?_
            simp only [↓DN,UP,DF,Qa,Qb,Qc,Qd,Qe,Qf,Qg,Qh,reduceCtorEq,↓reduceIte,Na,Nb,Nc,Nk,Nf,Ng,Nh,Za,Zb,Zc,TT, DB]
            refine hY ?_;clear hX hY X Y
            refine wS fun K hK => ?_
            simp only [↓DN,UP,DF,Qa,Qb,Qc,Qd,Qe,Qf,Qg,Qh,reduceCtorEq,↓reduceIte,Na,Nb,Nc,Nk,Nf,Ng,Nh,Za,Zb,Zc,TT, show (((2 : Nat) : Int) == 2) = true from rfl]
            refine hK _ _ ?_;clear hK K
            refine wC fun X Y hX hY => ?_
            simp only [↓DN,UP,DF,Qa,Qb,Qc,Qd,Qe,Qf,Qg,Qh,reduceCtorEq,↓reduceIte,Na,Nb,Nc,Nk,Nf,Ng,Nh,Za,Zb,Zc,TT, DB]
            refine hX ?_;clear hX hY X Y
            rcases hcase with hne | ⟨t', lf, rfl, he, hln, hF', hn'⟩
            · generalize treeN (remR Tr aleaf).1 = tn at *
              generalize (remR Tr aleaf).2 = er at *
              unfold treeV at hrm
              refine wS fun K hK => ?_
              simp only [↓DN,UP,DF,Qa,Qb,Qc,Qd,Qe,Qf,Qg,Qh,reduceCtorEq,↓reduceIte,Na,Nb,Nc,Nk,Nf,Ng,Nh,Za,Zb,Zc,TT, g3]
              refine acallk (hrm _) ?_
              rintro r s6 ⟨rfl, rfl⟩
              simp only [↓AXq_nil,↓AXq_cons,pval,DX,Nat.reduceBEq,↓DN,UP,DF,Qa,Qb,Qc,Qd,Qe,Qf,Qg,Qh,reduceCtorEq,↓reduceIte,Na,Nb,Nc,Nk,Nf,Ng,Nh,Za,Zb,Zc,TT]
              refine hK _ _ ?_;clear hK K
              refine wS fun K hK => ?_
              simp only [↓DN,UP,DF,Qa,Qb,Qc,Qd,Qe,Qf,Qg,Qh,reduceCtorEq,↓reduceIte,Na,Nb,Nc,Nk,Nf,Ng,Nh,Za,Zb,Zc,TT, beq_false_of_ne hne]
              refine hK _ _ ?_;clear hK K
              refine wC fun X Y hX hY => ?_
              simp only [↓DN,UP,DF,Qa,Qb,Qc,Qd,Qe,Qf,Qg,Qh,reduceCtorEq,↓reduceIte,Na,Nb,Nc,Nk,Nf,Ng,Nh,Za,Zb,Zc,TT, DB]
              refine hY ?_;clear hX hY X Y
              refine awp_skip ?_
              exact hJ _ _ Tr n o cap rest hF (by simp only [upd, g6, Nc, ↓reduceIte]) (by simp only [upd, g0, Nc, ↓reduceIte]) (by simp only [upd, g3, Nc, ↓reduceIte]) (by simp only [upd, g5, Nc, ↓reduceIte]) hobj hrl hcap h63
            · rw [he] at hrm
              simp only at hrm
              rw [treeN_ne (right_ne hF'.right)] at hrm
              unfold treeV at hrm
              have hset := nmC_set hln hn' rest
              have hRl : (nmC Tr n ++ rest).length = n + rest.length := by rw [List.length_append, nmC_len]
              have hn32 := hF.len
              unfold strC at hset
              simp only [asetAll] at hset
              generalize hR : nmC Tr n ++ rest = R at *
              have hgel : (0 : Int) ≤ ((lf : Nat) : Int) := by omega
              refine wS fun K hK => ?_
              simp only [↓DN,UP,DF,Qa,Qb,Qc,Qd,Qe,Qf,Qg,Qh,reduceCtorEq,↓reduceIte,Na,Nb,Nc,Nk,Nf,Ng,Nh,Za,Zb,Zc,TT, g3]
              refine acallk (hrm _) ?_
              rintro r s6 ⟨rfl, rfl⟩
              simp only [↓AXq_nil,↓AXq_cons,pval,DX,Nat.reduceBEq,↓DN,UP,DF,Qa,Qb,Qc,Qd,Qe,Qf,Qg,Qh,reduceCtorEq,↓reduceIte,Na,Nb,Nc,Nk,Nf,Ng,Nh,Za,Zb,Zc,TT]
              refine hK _ _ ?_;clear hK K
              refine wS fun K hK => ?_
              simp only [↓DN,UP,DF,Qa,Qb,Qc,Qd,Qe,Qf,Qg,Qh,reduceCtorEq,↓reduceIte,Na,Nb,Nc,Nk,Nf,Ng,Nh,Za,Zb,Zc,TT, show ((0 : Int) == 0) = true from rfl]
              refine hK _ _ ?_;clear hK K
              refine wC fun X Y hX hY => ?_
              simp only [↓DN,UP,DF,Qa,Qb,Qc,Qd,Qe,Qf,Qg,Qh,reduceCtorEq,↓reduceIte,Na,Nb,Nc,Nk,Nf,Ng,Nh,Za,Zb,Zc,TT, DB]
              refine hX ?_;clear hX hY X Y
              refine wS fun K hK => ?_
              simp only [↓DN,UP,DF,Qa,Qb,Qc,Qd,Qe,Qf,Qg,Qh,reduceCtorEq,↓reduceIte,Na,Nb,Nc,Nk,Nf,Ng,Nh,Za,Zb,Zc,TT, g5, hobj, hgel, hln, eye_lt_nat]
              refine ⟨by omega, hK _ _ ?_⟩
              clear hK K
              refine wE fun K hK => ?_
              simp only [↓DN,UP,DF,Qa,Qb,Qc,Qd,Qe,Qf,Qg,Qh,reduceCtorEq,↓reduceIte,Na,Nb,Nc,Nk,Nf,Ng,Nh,Za,Zb,Zc,TT]
              refine hK _ _ ?_;clear hK K
              refine hJ _ _ t' n o cap rest hF' (by simp only [upd, g6, Nc, ↓reduceIte]) (by simp only [upd, g0, Nc, ↓reduceIte]) (by simp only [upd, Nc, ↓reduceIte]) (by simp only [upd, g5, Nc, ↓reduceIte]) ?_ hrl hcap h63
              rw [AS.set_objs_same]
              exact congrArg some hset
        · refine wS fun K hK => ?_
          simp only [↓DN,UP,DF,Qa,Qb,Qc,Qd,Qe,Qf,Qg,Qh,reduceCtorEq,↓reduceIte,Na,Nb,Nc,Nk,Nf,Ng,Nh,Za,Zb,Zc,TT, decide_eq_true (show (40 : Int) < (a.name.length : Int) by omega)]
          refine hK _ _ ?_;clear hK K
          refine wC fun X Y hX hY => ?_
          simp only [↓DN,UP,DF,Qa,Qb,Qc,Qd,Qe,Qf,Qg,Qh,reduceCtorEq,↓reduceIte,Na,Nb,Nc,Nk,Nf,Ng,Nh,Za,Zb,Zc,TT, DB]
          refine hX ?_;clear hX hY X Y
          refine wS fun K hK => ?_
          simp only [↓DN,UP,DF,Qa,Qb,Qc,Qd,Qe,Qf,Qg,Qh,reduceCtorEq,↓reduceIte,Na,Nb,Nc,Nk,Nf,Ng,Nh,Za,Zb,Zc,TT]
          refine hK _ _ ?_;clear hK K
          refine awp_ret ?_
          try simp only [thenQ, blockQ]
          simp only [retQ, AEnds, aresL, ares, List.toList_toArray, ↓upd_same]; try simp only [UP,DF,Nc,↓reduceIte,DT]
          exact ⟨_, _, AV.weak.refl _, AS.le.refl _, rfl⟩
      · refine wK fun K2 hK2 => ?_
        refine wS fun K hK => ?_
        simp only [↓DN,UP,DF,Qa,Qb,Qc,Qd,Qe,Qf,Qg,Qh,reduceCtorEq,↓reduceIte,Na,Nb,Nc,Nk,Nf,Ng,Nh,Za,Zb,Zc,TT, g6, g0, eye_lt_nat, decide_eq_false hi']
        refine hK _ _ ?_;clear hK K
        refine wC fun X Y hX hY => ?_
        simp only [↓DN,UP,DF,Qa,Qb,Qc,Qd,Qe,Qf,Qg,Qh,reduceCtorEq,↓reduceIte,Na,Nb,Nc,Nk,Nf,Ng,Nh,Za,Zb,Zc,TT, DB]
        refine hY ?_;clear hX hY X Y
        refine awp_exit ?_
        simp only [thenQ, blockQ, if_true]
        refine hK _ _ ?_;clear hK hK2 K2 K
        refine wS fun K hK => ?_
        simp only [↓DN,UP,DF,Qa,Qb,Qc,Qd,Qe,Qf,Qg,Qh,reduceCtorEq,↓reduceIte,Na,Nb,Nc,Nk,Nf,Ng,Nh,Za,Zb,Zc,TT]
        refine hK _ _ ?_;clear hK K
        refine awp_ret ?_
        try simp only [thenQ, blockQ]
        simp only [retQ, AEnds, aresL, ares, List.toList_toArray, ↓upd_same]; try simp only [UP,DF,Nc,↓reduceIte,DT]
        exact ⟨_, _, AV.weak.refl _, AS.le.refl _, rfl⟩
  · have h40' : decide ((40 : Int) < (l.length : Int)) = true := decide_eq_true (by omega)
    refine wS fun K hK => ?_
    simp only [↓DN,UP,DF,Qa,Qb,Qc,Qd,Qe,Qf,Qg,Qh,reduceCtorEq,↓reduceIte,Na,Nb,Nc,Nk,Nf,Ng,Nh,Za,Zb,Zc,TT]
    refine acallk (haw _) ?_
    rintro r s1 ⟨rfl, rfl⟩
    simp only [↓AXq_nil,↓AXq_cons,pval,DX,Nat.reduceBEq,↓DN,UP,DF,Qa,Qb,Qc,Qd,Qe,Qf,Qg,Qh,reduceCtorEq,↓reduceIte,Na,Nb,Nc,Nk,Nf,Ng,Nh,Za,Zb,Zc,TT, h40']
    refine hK _ _ ?_;clear hK K
    refine wC fun X Y hX hY => ?_
    simp only [↓DN,UP,DF,Qa,Qb,Qc,Qd,Qe,Qf,Qg,Qh,reduceCtorEq,↓reduceIte,Na,Nb,Nc,Nk,Nf,Ng,Nh,Za,Zb,Zc,TT, DB]
    refine hX ?_;clear hX hY X Y
    refine wS fun K hK => ?_
    simp only [↓DN,UP,DF,Qa,Qb,Qc,Qd,Qe,Qf,Qg,Qh,reduceCtorEq,↓reduceIte,Na,Nb,Nc,Nk,Nf,Ng,Nh,Za,Zb,Zc,TT]
    refine acallk (haw _) ?_
    rintro r s2 ⟨rfl, rfl⟩
    simp only [↓AXq_nil,↓AXq_cons,pval,DX,Nat.reduceBEq,↓DN,UP,DF,Qa,Qb,Qc,Qd,Qe,Qf,Qg,Qh,reduceCtorEq,↓reduceIte,Na,Nb,Nc,Nk,Nf,Ng,Nh,Za,Zb,Zc,TT]
    refine hK _ _ ?_;clear hK K
    refine awp_ret ?_
    try simp only [thenQ, blockQ]
    simp only [retQ, AEnds, aresL, ares, List.toList_toArray, ↓upd_same]; try simp only [UP,DF,Nc,↓reduceIte,DT]
    exact ⟨_, _, AV.weak.refl _, AS.le.refl _, rfl⟩

end Go.Proofs.YtcnilmidfhpckaaDoor


set_option autoImplicit false
namespace Go.Proofs.YtcnilmidfhpckaaDoor
open Go Go.AM Go.Proofs



/-- The given tables, as cells. -/
def dB32 : List Nat := [0, 1, 28, 2, 29, 14, 24, 3, 30, 22, 20, 15, 25, 17, 4, 8, 31, 27, 13, 23, 21, 19, 16, 7, 26, 12, 18, 6, 11, 5, 10, 9]
def Γd (g : Nat) : List AV := if g = 0 then dB32.map u8C else if g = 1 then dB64.map u8C else []
abbrev laidD : List (String × DataW Unit) := [("math/bits.deBruijn32tab", Rows.laid_math_bits_deBruijn32tab), ("math/bits.deBruijn64tab", Rows.laid_math_bits_deBruijn64tab)]

theorem ints_of_trod {H : Type} {enc : TypeId × Value → H} {P : Program} {W : World} {base : Nat} {sp : Nat → Bool} {held : Bool} {fuel : Nat} {t e : TypeId} {n : Nat} {cs : List Value} {p : List MemPlace} {l : List Nat} {kd : IntKind}
    (hT : P.underlying t = some (.array n e)) (he : P.underlying e = some (.int kd)) (hc : P.cellsOf e = 1)
    (h : DataW.trod enc P W base sp held fuel t cs = some (.agg (l.map fun (x : Nat) => .lit (.int kd (x : Int))), p)) : ∀ (i x : Nat), l[i]? = some x → cs[i]? = some (.int kd (x : Int)) := by
  obtain ⟨xs, m, rfl, hx, hlen, hn, hel⟩ := DataW.trod_array hT h
  simp only [Prod.mk.injEq, DataW.agg.injEq] at hx
  intro i x hi
  have h1 : (l.map fun (x : Nat) => DataW.lit (H := H) (.int kd (x : Int)))[i]? = some (.lit (.int kd (x : Int))) := by rw [List.getElem?_map, hi]; rfl
  rw [hx.1, List.getElem?_map] at h1
  cases hy : xs[i]? with
  | none => rw [hy] at h1; cases h1
  | some y =>
    rw [hy] at h1
    simp only [Option.map_some, Option.some.injEq] at h1
    have hlt := (List.getElem?_eq_some_iff.1 hy).1
    have h2 := hel i (by omega)
    rw [hy, hc, Nat.mul_one] at h2
    obtain ⟨k, e1, e2, _⟩ := DataW.trod_int he h2
    rw [e2] at h1
    simp only [DataW.lit.injEq, Lit.int.injEq, true_and] at h1
    have h3 : (List.take 1 (List.drop i cs))[0]? = some (.int kd k) := by rw [e1]; rfl
    rw [List.getElem?_take, if_pos (by decide), List.getElem?_drop, Nat.add_zero, h1] at h3
    exact h3

theorem gB32 : Tryd.prog.globalNamed "math/bits.deBruijn32tab" = some 0 := by kernel_rfl
theorem gB64 : Tryd.prog.globalNamed "math/bits.deBruijn64tab" = some 1 := by kernel_rfl
theorem tB32 : (Tryd.prog.globals[0]?).map (·.type) = some 83 := by kernel_rfl
theorem tB64 : (Tryd.prog.globals[1]?).map (·.type) = some 84 := by kernel_rfl

theorem words_at {kd : IntKind} {W : World} {g : Nat} {cs : Array Value} {l : List Nat} (hc : ∀ i, W.cell? ⟨g, i, none⟩ = cs[i]?) (h : ∀ (i x : Nat), l[i]? = some x → cs.toList[i]? = some (.int kd (x : Int))) :
    ∃ vs, VRels (G0 W) (l.map fun (x : Nat) => .v (.int kd (x : Int))) vs ∧ RoAt (G0 W) g 0 vs := by
  refine ⟨l.map fun (x : Nat) => .int kd (x : Int), ?_, ?_⟩
  · have := VRels.vals (G := G0 W) (l.map fun (x : Nat) => Value.int kd (x : Int))
    rwa [List.map_map] at this
  · intro j u hu
    rw [List.getElem?_map] at hu
    cases hj : l[j]? with
    | none => rw [hj] at hu; cases hu
    | some x =>
      rw [hj] at hu
      simp only [Option.map_some, Option.some.injEq] at hu
      have := h j x hj
      show W.cell? ⟨g, 0 + j, none⟩ = some u
      rw [Nat.zero_add, hc j, ← hu]
      simpa using this

/-- What the condition gives the walks: the tables' cells. -/
theorem of_laid {W : World} (h : laidMetH Tryd.prog laidD W) : ∀ g, ∃ vs, VRels (G0 W) (Γd g) vs ∧ RoAt (G0 W) g 0 vs := by
  rw [MakeChecks.laidMetH_plain _ _ _ (by kernel_rfl)] at h
  obtain ⟨ps, ⟨g0, t0, cs0, f0, p0, q0, hg0, ht0, hv0, hd0, ⟨g1, t1, cs1, f1, p1, q1, hg1, ht1, hv1, hd1, _, _⟩, _⟩, _, _⟩ := h
  obtain rfl := Option.some.inj (gB32.symm.trans hg0)
  obtain rfl := Option.some.inj (gB64.symm.trans hg1)
  obtain rfl := Option.some.inj (tB32.symm.trans ht0)
  obtain rfl := Option.some.inj (tB64.symm.trans ht1)
  have h2 := words_at (World.var?_cell hg0 hv0) (ints_of_trod (l := dB32) Tryd.underlying83 Tryd.underlying5 T.c5 hd0)
  have h3 := words_at (World.var?_cell hg1 hv1) (ints_of_trod (l := dB64) Tryd.underlying84 Tryd.underlying5 T.c5 hd1)
  intro g
  by_cases e2 : g = 0
  · subst e2; exact h2
  · by_cases e3 : g = 1
    · subst e3; exact h3
    · refine ⟨[], ?_, fun j u h => by simp at h⟩
      simp [Γd, e2, e3, VRels]

/-- The door's own heap meets the condition. -/
theorem door_met (os : Os) (args : Array Value) : laidMetH Tryd.prog laidD ((World.doorLaid Tryd.prog 400 os).forCall (fun _ _ => 0) ⟨#[], args, []⟩).memory := by
  rw [MakeChecks.laidMetH_plain _ _ _ (by kernel_rfl)]
  exact laidMet_of_run' 8 (by kernel_rfl) (by kernel_rfl)

end Go.Proofs.YtcnilmidfhpckaaDoor


set_option autoImplicit false
namespace Go.Proofs.YtcnilmidfhpckaaDoor
/-! ### The words of the translation's head, read once -/
set_option maxRecDepth 100000
def signs : List Char := [Char.ofNat 104, Char.ofNat 97, Char.ofNat 114, Char.ofNat 110, Char.ofNat 101, Char.ofNat 115, Char.ofNat 115, Char.ofNat 32, Char.ofNat 53, Char.ofNat 57, Char.ofNat 97, Char.ofNat 50, Char.ofNat 53, Char.ofNat 51, Char.ofNat 51, Char.ofNat 102, Char.ofNat 98, Char.ofNat 57, Char.ofNat 57, Char.ofNat 49, Char.ofNat 101, Char.ofNat 101, Char.ofNat 52, Char.ofNat 50, Char.ofNat 51, Char.ofNat 55, Char.ofNat 97, Char.ofNat 54, Char.ofNat 99, Char.ofNat 51, Char.ofNat 54, Char.ofNat 102, Char.ofNat 54, Char.ofNat 52, Char.ofNat 51, Char.ofNat 49, Char.ofNat 54, Char.ofNat 99, Char.ofNat 98, Char.ofNat 55, Char.ofNat 99, Char.ofNat 97, Char.ofNat 51, Char.ofNat 56, Char.ofNat 102, Char.ofNat 102, Char.ofNat 98, Char.ofNat 52, Char.ofNat 49, Char.ofNat 99, Char.ofNat 99, Char.ofNat 49, Char.ofNat 51, Char.ofNat 98, Char.ofNat 51, Char.ofNat 48, Char.ofNat 48, Char.ofNat 101, Char.ofNat 54, Char.ofNat 53, Char.ofNat 97, Char.ofNat 49, Char.ofNat 97, Char.ofNat 56, Char.ofNat 50, Char.ofNat 99, Char.ofNat 52, Char.ofNat 100, Char.ofNat 56, Char.ofNat 102, Char.ofNat 52, Char.ofNat 50, Char.ofNat 32, Char.ofNat 99, Char.ofNat 117, Char.ofNat 116, Char.ofNat 32, Char.ofNat 97, Char.ofNat 116, Char.ofNat 32, Char.ofNat 101, Char.ofNat 110, Char.ofNat 103, Char.ofNat 114, Char.ofNat 111, Char.ofNat 115, Char.ofNat 115, Char.ofNat 101, Char.ofNat 114, Char.ofNat 47, Char.ofNat 101, Char.ofNat 110, Char.ofNat 103, Char.ofNat 114, Char.ofNat 111, Char.ofNat 115, Char.ofNat 115, Char.ofNat 101, Char.ofNat 114, Char.ofNat 108, Char.ofNat 97, Char.ofNat 119, Char.ofNat 50, Char.ofNat 48, Char.ofNat 46, Char.ofNat 82, Char.ofNat 97, Char.ofNat 116, Char.ofNat 99, Char.ofNat 104, Char.ofNat 101, Char.ofNat 116, Char.ofNat 70, Char.ofNat 111, Char.ofNat 108, Char.ofNat 100, Char.ofNat 115]
def headWords : List (List Char) := [[Char.ofNat 104, Char.ofNat 97, Char.ofNat 114, Char.ofNat 110, Char.ofNat 101, Char.ofNat 115, Char.ofNat 115],
  [Char.ofNat 53, Char.ofNat 57, Char.ofNat 97, Char.ofNat 50, Char.ofNat 53, Char.ofNat 51, Char.ofNat 51, Char.ofNat 102, Char.ofNat 98, Char.ofNat 57, Char.ofNat 57, Char.ofNat 49, Char.ofNat 101, Char.ofNat 101, Char.ofNat 52, Char.ofNat 50, Char.ofNat 51, Char.ofNat 55, Char.ofNat 97, Char.ofNat 54, Char.ofNat 99, Char.ofNat 51, Char.ofNat 54, Char.ofNat 102, Char.ofNat 54, Char.ofNat 52, Char.ofNat 51, Char.ofNat 49, Char.ofNat 54, Char.ofNat 99, Char.ofNat 98, Char.ofNat 55, Char.ofNat 99, Char.ofNat 97, Char.ofNat 51, Char.ofNat 56, Char.ofNat 102, Char.ofNat 102, Char.ofNat 98, Char.ofNat 52, Char.ofNat 49, Char.ofNat 99, Char.ofNat 99, Char.ofNat 49, Char.ofNat 51, Char.ofNat 98, Char.ofNat 51, Char.ofNat 48, Char.ofNat 48, Char.ofNat 101, Char.ofNat 54, Char.ofNat 53, Char.ofNat 97, Char.ofNat 49, Char.ofNat 97, Char.ofNat 56, Char.ofNat 50, Char.ofNat 99, Char.ofNat 52, Char.ofNat 100, Char.ofNat 56, Char.ofNat 102, Char.ofNat 52, Char.ofNat 50],
  [Char.ofNat 99, Char.ofNat 117, Char.ofNat 116],
  [Char.ofNat 97, Char.ofNat 116],
  [Char.ofNat 101, Char.ofNat 110, Char.ofNat 103, Char.ofNat 114, Char.ofNat 111, Char.ofNat 115, Char.ofNat 115, Char.ofNat 101, Char.ofNat 114, Char.ofNat 47, Char.ofNat 101, Char.ofNat 110, Char.ofNat 103, Char.ofNat 114, Char.ofNat 111, Char.ofNat 115, Char.ofNat 115, Char.ofNat 101, Char.ofNat 114, Char.ofNat 108, Char.ofNat 97, Char.ofNat 119, Char.ofNat 50, Char.ofNat 48, Char.ofNat 46, Char.ofNat 82, Char.ofNat 97, Char.ofNat 116, Char.ofNat 99, Char.ofNat 104, Char.ofNat 101, Char.ofNat 116, Char.ofNat 70, Char.ofNat 111, Char.ofNat 108, Char.ofNat 100, Char.ofNat 115]]
theorem initS : Tryd.prog.initOrder = String.ofList signs := by kernel_rfl
theorem words : wordsSigns Tryd.prog.initOrder.toList = headWords := by
  rw [initS, String.toList_ofList]
  kernel_rfl
theorem both {a b : Bool} (h : a = true) (k : b = true) : (a && b) = true := by rw [h, k]; rfl
theorem same_of {a b : Bool} (h : b = a) : (a == b) = true := by rw [h]; cases a <;> rfl
theorem make_of {a b : Option Make} (h : a = b) : (a == b) = true := by rw [h]; exact beq_self_eq_true _
theorem strip_cut (r : List (List Char)) : stripLifts liftWords ("cut".toList :: r) = ([], "cut".toList :: r) := by kernel_rfl
theorem lifts_cut {P : Program} {r} (h : behindMainWord (wordsSigns P.initOrder.toList) = "cut".toList :: r) : P.headLifts = [] := by
  unfold Program.headLifts
  rw [h, strip_cut]
  kernel_rfl
theorem make_cut {P : Program} {r} (h : behindMainWord (wordsSigns P.initOrder.toList) = "cut".toList :: r) : P.make = some .cut := by
  unfold Program.make
  rw [h, lifts_cut h]
  kernel_rfl
theorem final_cut {P : Program} {r} (h : behindMainWord (wordsSigns P.initOrder.toList) = "cut".toList :: r) : P.liftsFinal = false := by
  unfold Program.liftsFinal
  rw [h, lifts_cut h]
  kernel_rfl
theorem main_har {P : Program} {s r} (h : wordsSigns P.initOrder.toList = "harness".toList :: s :: r) (hs : isSumSigns s = true) : P.mainIs = some (true, s) := by
  unfold Program.mainIs
  rw [h]
  dsimp only
  rw [hs]
  kernel_rfl
theorem may_cut {P : Program} {r} (h : behindMainWord (wordsSigns P.initOrder.toList) = "cut".toList :: r) (hl : P.laysLater = false) (hr : P.bearsReflect = false) (hd : P.doorFits [] = true) : P.mayEnter = true := by
  unfold Program.mayEnter
  rw [h, hl, hr]
  dsimp only
  rw [strip_cut]
  dsimp only
  rw [hd]
  kernel_rfl
theorem behind : behindMainWord (wordsSigns Tryd.prog.initOrder.toList) = "cut".toList :: headWords.drop 3 := (congrArg behindMainWord words).trans (by kernel_rfl)
theorem headMake : Tryd.prog.make = some .cut := make_cut behind
theorem headMain : Tryd.prog.mainIs = some (true, "59a2533fb991ee4237a6c36f64316cb7ca38ffb41cc13b300e65a1a82c4d8f42".toList) := main_har (r := headWords.drop 2) (words.trans (by kernel_rfl)) (by kernel_rfl)
theorem headMay : Tryd.prog.mayEnter = true := may_cut behind (by kernel_rfl) (by kernel_rfl) (by kernel_rfl)
theorem headFin : Tryd.prog.liftsFinal = false := final_cut behind
end Go.Proofs.YtcnilmidfhpckaaDoor


