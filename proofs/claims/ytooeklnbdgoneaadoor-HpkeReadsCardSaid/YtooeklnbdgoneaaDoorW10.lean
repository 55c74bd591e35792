/- Contracts of the program's functions, each walked once; the conditions stand in each theorem. -/
import Derived.Test.YtooeklnbdgoneaaDoorW6
import Derived.Test.YtooeklnbdgoneaaDoorW4
import Derived.Test.YtooeklnbdgoneaaDoorW9
import Derived.Test.YtooeklnbdgoneaaDoorAMp5
import Derived.Test.YtooeklnbdgoneaaDoorW8
import Derived.Test.YtooeklnbdgoneaaDoorAMp6
set_option linter.unusedSimpArgs false
set_option linter.unusedVariables false
open Nat renaming reduceLT → nLT, reduceLeDiff → nLE, reduceEqDiff → nEQ, reduceAdd → nAdd, reduceMul → nMul, reducePow → nPow, reduceSub → nSub
open Int renaming reduceLT → zLT, reduceLE → zLE, reduceToNat → zNat
open Go.AM renaming ashift → qSh, aconv → qCv, aindexAddr → qIA, aindex → qIx, aslice → qSl, abuiltin → qBu
open Go.AM.AV renaming cells → qCe, one → qOn
set_option autoImplicit false
namespace Go.AM
namespace Vault
def nonceW : List UInt8 := [110, 111, 110, 99, 101]
def text0 : List UInt8 := [97, 32, 115, 101, 99, 114, 101, 116, 32, 111, 102, 32, 116, 119, 111, 32, 97, 110, 100, 32, 116, 104, 105, 114, 116, 121, 32, 98, 121, 116, 101, 115]
def k0 : List UInt8 := [169, 244, 63, 67, 64, 52, 17, 249, 117, 86, 100, 57, 122, 167, 125, 1, 230, 91, 103, 131, 115, 144, 199, 68, 248, 159, 166, 218, 250, 248, 1, 114, 135, 15, 162, 208, 108, 252, 211, 18, 83, 148, 90, 178, 179, 251, 67, 14]
def n3 : List UInt8 := [8, 190, 219, 198, 217, 21, 206, 227, 25, 6, 89, 27, 186, 224, 186, 54]
def n4 : List UInt8 := [184, 102, 163, 253, 77, 158, 128, 5, 108, 65, 104, 250, 253, 115, 180, 138]
def m3 : List UInt8 := [247, 169, 26, 226, 24, 129, 224, 169, 173, 123, 5, 148, 71, 154, 82, 74, 108, 148, 179, 118, 179, 215, 27, 211, 244, 97, 172, 107, 233, 136, 76, 169]
def t3 : List UInt8 := [8, 206, 240, 108, 85, 27, 1, 138, 119, 108, 80, 208, 57, 159, 143, 149]
end Vault
end Go.AM


set_option autoImplicit false
namespace Go.AM
open Go

/-! ### Records -/
structure Rec where
  kind : Int
  group : List UInt8
  epoch : Int
  time : Int
  bucket : Int
  body : List UInt8
  tree : List UInt8
  script : List UInt8
  wrapped : List UInt8
  deriving DecidableEq

def Rec.cells (r : Rec) : List AV := [.v (.int .i64 r.kind), bytesV r.group .any, .v (.int .i64 r.epoch), .v (.int .i64 r.time), .v (.int .i64 r.bucket), bytesV r.body .any, bytesV r.tree .any, bytesV r.script .any, bytesV r.wrapped .any]
def Rec.nought : Rec := ⟨0, [], 0, 0, 0, [], [], [], []⟩

def Rec.right (r : Rec) : Prop :=
  1 ≤ r.kind ∧ r.kind ≤ 3 ∧ 1 ≤ r.group.length ∧ r.group.length ≤ 16 ∧ 0 ≤ r.epoch ∧ r.epoch ≤ 1048576 ∧ 0 ≤ r.time ∧ r.time ≤ 1099511627776 ∧ 0 ≤ r.bucket ∧ r.bucket ≤ 1099511627776 ∧ r.body.length ≤ 60000 ∧
    r.tree.length = (if r.kind = 3 then 0 else 32) ∧ r.script.length = (if r.kind = 3 then 0 else 32) ∧ r.wrapped.length = (if r.kind = 3 then 0 else 48)
instance (r : Rec) : Decidable r.right := by unfold Rec.right; infer_instance

def Rec.text (r : Rec) : List UInt8 :=
  be 1 r.kind.toNat ++ (be 1 r.group.length ++ r.group ++ (be 8 r.epoch.toNat ++ (be 8 r.time.toNat ++ (be 8 r.bucket.toNat ++
    (be 2 r.body.length ++ r.body ++ (be 1 r.tree.length ++ r.tree ++ (be 1 r.script.length ++ r.script ++ (be 1 r.wrapped.length ++ r.wrapped ++ []))))))))

/-! What was read is written back. -/
end Go.AM


set_option autoImplicit false
namespace Go.AM
open Go

/-! ### Pens: octets put, whether bad or not -/
theorem penNum_raw (k n : Nat) (st : List UInt8 × Bool) : penNum k n st = penRaw (be k n) st := rfl
theorem penSmall_raw {k n : Nat} (h : n < 256 ^ k) (st : List UInt8 × Bool) : penSmall k (n : Int) st = penRaw (be k n) st := by
  have e : (256 : Nat) ^ k = 2 ^ (8 * k) := by rw [Nat.pow_mul]
  have hh : (n : Int) < 2 ^ (8 * k) := by
    rw [e] at h
    exact_mod_cast h
  unfold penSmall
  rw [if_pos ⟨by omega, hh⟩]
  simp only [Int.toNat_natCast, penNum_raw]
theorem penRaw_raw (a b : List UInt8) (st : List UInt8 × Bool) : penRaw a (penRaw b st) = penRaw (b ++ a) st := by
  unfold penRaw
  by_cases h : st.2 = true
  · simp [h]
  · simp [h]
theorem penText_raw {k : Nat} {m : List UInt8} (h : m.length < 256 ^ k) (st : List UInt8 × Bool) : penText k m st = penRaw (be k m.length ++ m) st := by
  unfold penText
  rw [penSmall_raw h, penRaw_raw]
/-! ### A node's octets, and back -/
def intsText (l : List Int) : List UInt8 := (l.map fun x => be 1 x.toNat).flatten
def NodeV.text (N : NodeV) : List UInt8 :=
  if N.kind = 0 then be 1 0
  else if N.kind = 1 then be 1 1 ++ (be 1 N.name.length ++ N.name) ++ be 8 N.key ++ (be 1 N.parent.length ++ N.parent)
  else be 1 2 ++ be 8 N.key ++ (be 1 N.parent.length ++ N.parent) ++ be 1 N.unm.length ++ intsText N.unm

theorem rising_at {l : List Int} (h : Rising l) : ∀ i, i < l.length → (i : Int) ≤ l.getD i 0
  | 0, k => (h 0 k).1
  | i + 1, k => by
    have := rising_at h i (by omega)
    have h3 := (h (i + 1) k).2.2 (by omega)
    simp only [Nat.add_sub_cancel] at h3
    omega
theorem rising_len {l : List Int} (h : Rising l) : l.length ≤ 32 := by
  by_cases k : l.length = 0
  · omega
  · have h1 := rising_at h (l.length - 1) (by omega)
    have h2 := (h (l.length - 1) (by omega)).2.1
    omega
theorem intsText_len : ∀ (l : List Int), (intsText l).length = l.length
  | [] => rfl
  | x :: l => by
    have := intsText_len l
    simp only [intsText, List.map_cons, List.flatten_cons, List.length_append, length_be, List.length_cons] at *
    omega
theorem node_kind {N : NodeV} (h : N.right) : N.kind = 0 ∨ N.kind = 1 ∨ N.kind = 2 := by
  unfold NodeV.right at h
  split at h
  · left; assumption
  · split at h
    · right; left; assumption
    · split at h
      · right; right; assumption
      · exact h.elim

theorem NodeV.text_len {N : NodeV} (h : N.right) : N.text.length ≤ 100 := by
  obtain ⟨k, m, y, p, u⟩ := N
  rcases node_kind h with hk | hk | hk
  · simp only at hk
    simp [NodeV.text, hk]
  · obtain ⟨h1, h2, ⟨h3, h4, h5⟩, h6⟩ := (right_one hk).1 h
    simp only at hk h1 h2 h3 h4 h5 h6
    simp [NodeV.text, hk]
    omega
  · obtain ⟨h1, ⟨h3, h4, h5⟩, h6⟩ := (right_two hk).1 h
    simp only at hk h1 h3 h4 h5 h6
    have hu := rising_len h6
    simp [NodeV.text, hk, intsText_len]
    omega

/-! ### A reader: an eye at p, the result at o2, the variable at o3 -/
structure RdS (s s1 : AS) (p o2 o3 : Nat) (ce z cs : List AV) : Prop where
  le : (s.drop p).le s1
  eye : s1.objs p = some ce
  res : s1.objs o2 = some z
  var : s1.objs o3 = some cs
  n2 : s.objs o2 = none
  n3 : s.objs o3 = none
  p2 : p ≠ o2
  p3 : p ≠ o3
  d : o2 ≠ o3
theorem AS.drop_objs_none {s : AS} {p o : Nat} (h : s.objs o = none) : (s.drop p).objs o = none := by
  simp only [AS.drop, upd]; split
  · rfl
  · exact h
theorem AS.drop_self (s : AS) (p : Nat) : (s.drop p).objs p = none := by simp [AS.drop]
theorem RdS.setEye {s s1 : AS} {p o2 o3 : Nat} {ce z cs : List AV} (h : RdS s s1 p o2 o3 ce z cs) (ce' : List AV) : RdS s (s1.set p ce') p o2 o3 ce' z cs :=
  ⟨AS.le_set h.le (AS.drop_self _ _) _, AS.set_objs_same _ _ _, by rw [AS.set_objs_ne _ h.p2.symm]; exact h.res, by rw [AS.set_objs_ne _ h.p3.symm]; exact h.var, h.n2, h.n3, h.p2, h.p3, h.d⟩
theorem RdS.setRes {s s1 : AS} {p o2 o3 : Nat} {ce z cs : List AV} (h : RdS s s1 p o2 o3 ce z cs) (z' : List AV) : RdS s (s1.set o2 z') p o2 o3 ce z' cs :=
  ⟨AS.le_set h.le (AS.drop_objs_none h.n2) _, by rw [AS.set_objs_ne _ h.p2]; exact h.eye, AS.set_objs_same _ _ _, by rw [AS.set_objs_ne _ h.d.symm]; exact h.var, h.n2, h.n3, h.p2, h.p3, h.d⟩
theorem RdS.setVar {s s1 : AS} {p o2 o3 : Nat} {ce z cs : List AV} (h : RdS s s1 p o2 o3 ce z cs) (cs' : List AV) : RdS s (s1.set o3 cs') p o2 o3 ce z cs' :=
  ⟨AS.le_set h.le (AS.drop_objs_none h.n3) _, by rw [AS.set_objs_ne _ h.p3]; exact h.eye, by rw [AS.set_objs_ne _ h.d]; exact h.res, AS.set_objs_same _ _ _, h.n2, h.n3, h.p2, h.p3, h.d⟩
theorem RdS.gain {s s1 : AS} {p o2 o3 : Nat} {ce z cs : List AV} (h : RdS s s1 p o2 o3 ce z cs) {t : Nat} (ht : s.own t = none) (e : Nat) : RdS s (s1.gain t e) p o2 o3 ce z cs :=
  ⟨AS.le_gain h.le (by simpa [AS.drop] using ht) e, h.eye, h.res, h.var, h.n2, h.n3, h.p2, h.p3, h.d⟩
theorem RdS.out {s s1 : AS} {p o2 o3 : Nat} {ce z cs : List AV} (h : RdS s s1 p o2 o3 ce z cs) : (s.set p ce).le s1 := AS.set_le_of h.le h.eye
theorem RdS.own_none {s s1 : AS} {p o2 o3 : Nat} {ce z cs : List AV} (h : RdS s s1 p o2 o3 ce z cs) {t : Nat} (ht : s1.own t = none) : s.own t = none := by
  cases h0 : s.own t with
  | none => rfl
  | some e =>
    have := h.le.own t e (by simpa [AS.drop] using h0)
    rw [ht] at this
    cases this
/-- A slice of whole numbers that grows. -/
def IBuf (s0 s : AS) (x : AV) (l : List Int) : Prop := (x = nilS ∧ l = []) ∨ ∃ t e, x = intsV l (.own t e) ∧ s.own t = some e ∧ s0.own t = none
theorem IBuf.weak {s0 s : AS} {x : AV} {l : List Int} (h : IBuf s0 s x l) : x.weak (intsV l .any) := by
  rcases h with ⟨rfl, rfl⟩ | ⟨t, e, rfl, _, _⟩
  · exact AV.weak_nil
  · exact AV.weak_any
end Go.AM


set_option autoImplicit false
namespace Go.AM
namespace Hpke
def keyW : List UInt8 := [107, 101, 121]
def nonceW : List UInt8 := [110, 111, 110, 99, 101]
/-- A power by squaring. -/
def pm : Nat → Nat → Nat → Nat
  | 0, _, _ => 1
  | f + 1, a, n => if n % 2 = 1 then a * pm f (a * a % PP) (n / 2) % PP else pm f (a * a % PP) (n / 2)
theorem pm_is : ∀ (f a n : Nat), n < 2 ^ f → pm f a n % PP = a ^ n % PP
  | 0, a, n, h => by
    obtain rfl : n = 0 := by simpa using h
    rfl
  | f + 1, a, n, h => by
    have ih := pm_is f (a * a % PP) (n / 2) (by rw [Nat.pow_succ] at h; omega)
    have e : a ^ n = a ^ (n % 2) * (a * a) ^ (n / 2) := by
      conv => lhs; rw [← Nat.div_add_mod n 2]
      rw [Nat.pow_add, Nat.pow_mul, Nat.mul_comm, Nat.pow_two]
    rw [← Nat.pow_mod] at ih
    rw [pm]
    split
    · rename_i h1
      rw [e, h1, Nat.pow_one, Nat.mod_mod, Nat.mul_mod, ih, ← Nat.mul_mod]
    · rename_i h1
      have h0 : n % 2 = 0 := by omega
      rw [e, h0, Nat.pow_zero, Nat.one_mul, ih]
/-- The secret that is shared, the keys of it. -/
def sec (shared frm to : Nat) : List UInt8 := Mac.tag [] (be 8 shared ++ (be 8 frm ++ be 8 to))
def hk (s info : List UInt8) : List UInt8 := Kdf.label s keyW info 48
def hn (s info : List UInt8) : List UInt8 := Kdf.label s nonceW info 16
def la : List UInt8 := [117, 6, 33, 112, 191, 248, 206, 197]
def ld : List UInt8 := [58, 81, 223, 243, 45, 240, 153, 21]
def sec0 : List UInt8 := [141, 119, 55, 123, 82, 51, 78, 165, 114, 29, 156, 35, 36, 0, 227, 205, 100, 62, 143, 51, 135, 236, 17, 17, 122, 93, 79, 192, 194, 220, 90, 18]
def ki : List UInt8 := [6, 141, 179, 206, 59, 220, 75, 205, 198, 77, 58, 67, 99, 194, 233, 122, 153, 41, 163, 200, 98, 168, 177, 210, 181, 231, 29, 134, 148, 66, 107, 113, 124, 242, 131, 217, 24, 36, 134, 132, 77, 156, 59, 74, 50, 173, 130, 234]
def ni : List UInt8 := [136, 49, 255, 165, 101, 146, 196, 206, 247, 234, 220, 25, 136, 117, 153, 186]
def kj : List UInt8 := [178, 92, 12, 87, 181, 133, 74, 247, 82, 175, 70, 248, 213, 1, 18, 57, 117, 10, 113, 240, 250, 18, 16, 170, 243, 28, 188, 27, 191, 52, 21, 68, 75, 255, 24, 136, 122, 14, 177, 142, 21, 94, 17, 187, 206, 91, 8, 122]
def nj : List UInt8 := [190, 237, 202, 75, 55, 209, 188, 106, 213, 169, 209, 64, 48, 110, 33, 23]
def text0 : List UInt8 := [116, 101, 120, 116]
def m0 : List UInt8 := [144, 78, 103, 61]
def t0 : List UInt8 := [114, 25, 121, 18, 165, 57, 11, 147, 19, 26, 64, 233, 1, 176, 44, 69]
set_option maxRecDepth 100000 in
theorem la_is : Kdf.label [97] keyW [] 8 = la := by decide +kernel
set_option maxRecDepth 100000 in
theorem ld_is : Kdf.label [100] keyW [] 8 = ld := by decide +kernel
set_option maxRecDepth 100000 in
theorem ka_is : 1 + beNat la % 2305843009213693949 = 1514935092797558479 := by decide +kernel
set_option maxRecDepth 100000 in
theorem kd_is : 1 + beNat ld % 2305843009213693949 = 1896543153640479001 := by decide +kernel
theorem pub_is : 3 ^ 1514935092797558479 % PP = 1698461819911046417 := (pm_is 64 3 1514935092797558479 (by decide)).symm.trans (by decide +kernel)
theorem from_is : 3 ^ 1896543153640479001 % PP = 286126448538016316 := (pm_is 64 3 1896543153640479001 (by decide)).symm.trans (by decide +kernel)
theorem sh_is : 1698461819911046417 ^ 1896543153640479001 % PP = 1257739691807743659 := (pm_is 64 1698461819911046417 1896543153640479001 (by decide)).symm.trans (by decide +kernel)
theorem hs_is : 286126448538016316 ^ 1514935092797558479 % PP = 1257739691807743659 := (pm_is 64 286126448538016316 1514935092797558479 (by decide)).symm.trans (by decide +kernel)
set_option maxRecDepth 100000 in
theorem sec_is : sec 1257739691807743659 286126448538016316 1698461819911046417 = sec0 := by decide +kernel
set_option maxRecDepth 100000 in
theorem ki_is : hk sec0 [105] = ki := by decide +kernel
set_option maxRecDepth 100000 in
theorem ni_is : hn sec0 [105] = ni := by decide +kernel
set_option maxRecDepth 100000 in
theorem kj_is : hk sec0 [106] = kj := by decide +kernel
set_option maxRecDepth 100000 in
theorem nj_is : hn sec0 [106] = nj := by decide +kernel
set_option maxRecDepth 100000 in
theorem m0_is : Aes.mask ki ni text0 = m0 := by decide +kernel
set_option maxRecDepth 100000 in
theorem t0_is : Aes.tag ki ni [] m0 = t0 := by decide +kernel
set_option maxRecDepth 100000 in
theorem tj_not : Aes.tag kj nj [] m0 ≠ t0 := by decide +kernel
end Hpke
end Go.AM


set_option autoImplicit false
namespace Go.Proofs.YtooeklnbdgoneaaDoor
open Go Go.AM Go.Proofs

theorem RHpk163 : type_of% (And.intro (And.intro (And.intro (And.intro (And.intro (And.intro @Tryd.underlying3 T.c3) (And.intro T.g3 T.b3)) (And.intro (And.intro T.z3 @Tryd.underlying5) (And.intro T.c5 (And.intro T.g5 T.b5)))) (And.intro (And.intro (And.intro T.z5 @Tryd.underlying9) (And.intro T.c9 T.g9)) (And.intro (And.intro T.b9 T.z9) (And.intro @Tryd.underlying22 (And.intro T.c22 T.g22))))) (And.intro (And.intro (And.intro (And.intro T.b22 T.z22) (And.intro T.s22 @Tryd.underlying41)) (And.intro (And.intro T.c41 T.g41) (And.intro T.b41 (And.intro T.z41 @Tryd.underlying77)))) (And.intro (And.intro (And.intro T.c77 T.g77) (And.intro T.b77 T.z77)) (And.intro (And.intro T.s77 T.k46) (And.intro T.k92 (And.intro T.k81 T.k93)))))) Tryd.ntmps63) :=
  (And.intro (And.intro (And.intro (And.intro (And.intro (And.intro @Tryd.underlying3 T.c3) (And.intro T.g3 T.b3)) (And.intro (And.intro T.z3 @Tryd.underlying5) (And.intro T.c5 (And.intro T.g5 T.b5)))) (And.intro (And.intro (And.intro T.z5 @Tryd.underlying9) (And.intro T.c9 T.g9)) (And.intro (And.intro T.b9 T.z9) (And.intro @Tryd.underlying22 (And.intro T.c22 T.g22))))) (And.intro (And.intro (And.intro (And.intro T.b22 T.z22) (And.intro T.s22 @Tryd.underlying41)) (And.intro (And.intro T.c41 T.g41) (And.intro T.b41 (And.intro T.z41 @Tryd.underlying77)))) (And.intro (And.intro (And.intro T.c77 T.g77) (And.intro T.b77 T.z77)) (And.intro (And.intro T.s77 T.k46) (And.intro T.k92 (And.intro T.k81 T.k93)))))) Tryd.ntmps63)
variable {Γ : Nat → List AV}

theorem hfits_key (info : List UInt8) (h : info.length ≤ 60000) : Kdf.fits Hpke.keyW info 48 = true := by
  simp [Kdf.fits, Hpke.keyW]; omega
theorem hfits_nonce (info : List UInt8) (h : info.length ≤ 60000) : Kdf.fits Hpke.nonceW info 16 = true := by
  simp [Kdf.fits, Hpke.nonceW]; omega
theorem hk_len (s info : List UInt8) (h : info.length ≤ 60000) : (Hpke.hk s info).length = 48 := by
  rw [Hpke.hk, Kdf.label, hfits_key info h, if_pos rfl]
  exact Kdf.expand_len _ _ _
theorem hn_len (s info : List UInt8) (h : info.length ≤ 60000) : (Hpke.hn s info).length = 16 := by
  rw [Hpke.hn, Kdf.label, hfits_nonce info h, if_pos rfl]
  exact Kdf.expand_len _ _ _
theorem sec_len (a b c : Nat) : (Hpke.sec a b c).length = 32 := Mac.tag_len _ _
theorem sec_flat (a b c : Nat) : Mac.tag [] ([be 8 a, be 8 b, be 8 c].flatten) = Hpke.sec a b c := by
  rw [Hpke.sec]; simp

set_option maxHeartbeats 1000000 in
theorem hkeys_calls (hG0 : Γ 0 = stC Sha.H0) (hG : Γ 1 = Sha.K.map wV) (a b c : Nat) (info : List UInt8) (hb : b < 2 ^ 64) (hc : c < 2 ^ 64) (hi : info.length ≤ 60000) (s : AS) :
    ACalls Tryd.prog Γ 63 [bytesV (be 8 a) .any, .v (.int .u64 b), .v (.int .u64 c), bytesV info .any] s
      (fun r s' => r = .tup [bytesV (Hpke.hk (Hpke.sec a b c) info) .any, bytesV (Hpke.hn (Hpke.sec a b c) info) .any, .v (.bool true)] ∧ s' = s) := by
  refine acalls_body Tryd.func63 rfl Tryd.ntmps63 Tryd.results63 (by simp) ?_
  have hrep3 : ∀ x : AV, List.replicate 3 x = [x, x, x] := fun _ => rfl
  have hcc := fun s => concat_calls (Γ := Γ) [be 8 a, be 8 b, be 8 c] .new (by simp) (by simp) s
  have hex := fun s => extract_calls (Γ := Γ) hG0 hG [] ([be 8 a, be 8 b, be 8 c].flatten) (by simp) (by simp) s
  rw [sec_flat] at hex
  have hfl : ([be 8 a, be 8 b, be 8 c].flatten).length = 24 := by simp
  have hsl := sec_len a b c
  have h1 := fun s => label_calls (Γ := Γ) hG0 hG (Hpke.sec a b c) Hpke.keyW info 48 (by omega) (by decide) (by omega) (by decide) s
  have h2 := fun s => label_calls (Γ := Γ) hG0 hG (Hpke.sec a b c) Hpke.nonceW info 16 (by omega) (by decide) (by omega) (by decide) s
  rw [hfits_key info hi] at h1
  rw [hfits_nonce info hi] at h2
  change ∀ s, ACalls _ _ _ _ s (fun r s' => r = .tup [bytesV (Hpke.hk (Hpke.sec a b c) info) .any, _] ∧ s' = s) at h1
  change ∀ s, ACalls _ _ _ _ s (fun r s' => r = .tup [bytesV (Hpke.hn (Hpke.sec a b c) info) .any, _] ∧ s' = s) at h2
  generalize [be 8 a, be 8 b, be 8 c].flatten = F at *
  generalize Hpke.hk (Hpke.sec a b c) info = k at *
  generalize Hpke.hn (Hpke.sec a b c) info = n at *
  generalize Hpke.sec a b c = S at *
  refine awp_reg_seq ?_
  intro K hK
  simp only [↓DN, UP, DF, qSh, qCv, qIA, qIx, qSl, qBu, qCe, qOn, reduceCtorEq, ↓reduceIte, nLT, nLE, nEQ, nAdd, nMul, nPow, nSub, zLT, zLE, zNat, RHpk163]
  refine hK _ _ ?_
  clear hK K
  refine awp_reg_seq ?_
  intro K hK
  simp only [↓DN, UP, DF, qSh, qCv, qIA, qIx, qSl, qBu, qCe, qOn, reduceCtorEq, ↓reduceIte, nLT, nLE, nEQ, nAdd, nMul, nPow, nSub, zLT, zLE, zNat, RHpk163]
  refine acallk (powOctets_calls b hb _) ?_
  rintro r s1 ⟨rfl, rfl⟩
  simp only [↓AXq_nil, ↓AXq_cons, pval, DX, Nat.reduceBEq, ↓DN, UP, DF, qSh, qCv, qIA, qIx, qSl, qBu, qCe, qOn, reduceCtorEq, ↓reduceIte, nLT, nLE, nEQ, nAdd, nMul, nPow, nSub, zLT, zLE, zNat, RHpk163]
  refine acallk (powOctets_calls c hc _) ?_
  rintro r s2 ⟨rfl, rfl⟩
  simp only [↓AXq_nil, ↓AXq_cons, pval, DX, Nat.reduceBEq, ↓DN, UP, DF, qSh, qCv, qIA, qIx, qSl, qBu, qCe, qOn, reduceCtorEq, ↓reduceIte, nLT, nLE, nEQ, nAdd, nMul, nPow, nSub, zLT, zLE, zNat, RHpk163, hrep3]
  refine acallk (hcc _) ?_
  intro r s3 hout
  obtain ⟨t, e, rfl⟩ := outS_own hout (by rw [← List.length_pos_iff, hfl]; decide)
  have hle3 := hout.1
  clear hout
  simp only [↓AXq_nil, ↓AXq_cons, pval, DX, Nat.reduceBEq, ↓DN, UP, DF, qSh, qCv, qIA, qIx, qSl, qBu, qCe, qOn, reduceCtorEq, ↓reduceIte, nLT, nLE, nEQ, nAdd, nMul, nPow, nSub, zLT, zLE, zNat, RHpk163]
  refine acallk (ACalls.weaks (AVs.weak.cons (AV.weak_nil (sz := 1)) (AVs.weak.cons (AV.weak_any) AVs.weak.nil)) (hex _)) ?_
  intro r s4 hout
  obtain ⟨t4, e4, rfl⟩ := outS_own hout (by rw [← List.length_pos_iff, hsl]; decide)
  have hle4 := hle3.trans hout.1
  clear hout
  simp only [↓AXq_nil, ↓AXq_cons, pval, DX, Nat.reduceBEq, ↓DN, UP, DF, qSh, qCv, qIA, qIx, qSl, qBu, qCe, qOn, reduceCtorEq, ↓reduceIte, nLT, nLE, nEQ, nAdd, nMul, nPow, nSub, zLT, zLE, zNat, RHpk163]
  refine hK _ _ ?_
  clear hK K
  refine awp_reg_seq ?_
  intro K hK
  simp only [↓DN, UP, DF, qSh, qCv, qIA, qIx, qSl, qBu, qCe, qOn, reduceCtorEq, ↓reduceIte, nLT, nLE, nEQ, nAdd, nMul, nPow, nSub, zLT, zLE, zNat, RHpk163]
  refine acallk (ACalls.weaks (AVs.weak.cons (AV.weak_any) (AVs.weak.refl _)) (h1 _)) ?_
  rintro r s5 ⟨rfl, rfl⟩
  simp only [↓AXq_nil, ↓AXq_cons, pval, DX, Nat.reduceBEq, ↓DN, UP, DF, qSh, qCv, qIA, qIx, qSl, qBu, qCe, qOn, reduceCtorEq, ↓reduceIte, nLT, nLE, nEQ, nAdd, nMul, nPow, nSub, zLT, zLE, zNat, RHpk163]
  refine hK _ _ ?_
  clear hK K
  refine awp_reg_seq ?_
  intro K hK
  simp only [↓DN, UP, DF, qSh, qCv, qIA, qIx, qSl, qBu, qCe, qOn, reduceCtorEq, ↓reduceIte, nLT, nLE, nEQ, nAdd, nMul, nPow, nSub, zLT, zLE, zNat, RHpk163]
  refine acallk (ACalls.weaks (AVs.weak.cons (AV.weak_any) (AVs.weak.refl _)) (h2 _)) ?_
  rintro r s6 ⟨rfl, rfl⟩
  simp only [↓AXq_nil, ↓AXq_cons, pval, DX, Nat.reduceBEq, ↓DN, UP, DF, qSh, qCv, qIA, qIx, qSl, qBu, qCe, qOn, reduceCtorEq, ↓reduceIte, nLT, nLE, nEQ, nAdd, nMul, nPow, nSub, zLT, zLE, zNat, RHpk163]
  refine hK _ _ ?_
  clear hK K
  refine awp_reg_seq ?_
  intro K hK
  simp only [↓DN, UP, DF, qSh, qCv, qIA, qIx, qSl, qBu, qCe, qOn, reduceCtorEq, ↓reduceIte, nLT, nLE, nEQ, nAdd, nMul, nPow, nSub, zLT, zLE, zNat, RHpk163]
  refine hK _ _ ?_
  clear hK K
  refine awp_ret ?_
  simp only [retQ, AEnds, aresL, ares, List.toList_toArray, ↓upd_same]; try simp only [↓DN, UP, DF, qSh, qCv, qIA, qIx, qSl, qBu, qCe, qOn, reduceCtorEq, ↓reduceIte, nLT, nLE, nEQ, nAdd, nMul, nPow, nSub, zLT, zLE, zNat, RHpk163, DT]
  exact ⟨_, _, AV.weak.refl _, hle4, rfl, rfl⟩

end Go.Proofs.YtooeklnbdgoneaaDoor


set_option autoImplicit false
namespace Go.Proofs.YtooeklnbdgoneaaDoor
open Go Go.AM Go.Proofs

theorem RHpk227 : type_of% (And.intro (And.intro (And.intro (And.intro (And.intro (And.intro @Tryd.underlying4 T.c4) (And.intro T.g4 (And.intro T.b4 T.z4))) (And.intro (And.intro @Tryd.underlying5 T.c5) (And.intro T.g5 (And.intro T.b5 T.z5)))) (And.intro (And.intro (And.intro @Tryd.underlying22 T.c22) (And.intro T.g22 (And.intro T.b22 T.z22))) (And.intro (And.intro T.s22 @Tryd.underlying30) (And.intro T.c30 (And.intro T.g30 T.b30))))) (And.intro (And.intro (And.intro (And.intro T.z30 @Tryd.underlying41) (And.intro T.c41 (And.intro T.g41 T.b41))) (And.intro (And.intro T.z41 @Tryd.underlying46) (And.intro T.c46 (And.intro T.g46 T.b46)))) (And.intro (And.intro (And.intro T.z46 T.h46) (And.intro T.f46_0 (And.intro T.f46_1 T.k62))) (And.intro (And.intro T.k60 T.k51) (And.intro T.k63 (And.intro T.k61 T.k64)))))) Tryd.ntmps27) :=
  (And.intro (And.intro (And.intro (And.intro (And.intro (And.intro @Tryd.underlying4 T.c4) (And.intro T.g4 (And.intro T.b4 T.z4))) (And.intro (And.intro @Tryd.underlying5 T.c5) (And.intro T.g5 (And.intro T.b5 T.z5)))) (And.intro (And.intro (And.intro @Tryd.underlying22 T.c22) (And.intro T.g22 (And.intro T.b22 T.z22))) (And.intro (And.intro T.s22 @Tryd.underlying30) (And.intro T.c30 (And.intro T.g30 T.b30))))) (And.intro (And.intro (And.intro (And.intro T.z30 @Tryd.underlying41) (And.intro T.c41 (And.intro T.g41 T.b41))) (And.intro (And.intro T.z41 @Tryd.underlying46) (And.intro T.c46 (And.intro T.g46 T.b46)))) (And.intro (And.intro (And.intro T.z46 T.h46) (And.intro T.f46_0 (And.intro T.f46_1 T.k62))) (And.intro (And.intro T.k60 T.k51) (And.intro T.k63 (And.intro T.k61 T.k64)))))) Tryd.ntmps27)
variable {Γ : Nat → List AV}

def pubOk (n : Nat) : Prop := 2 ≤ n ∧ n ≤ 2305843009213693949
instance (n : Nat) : Decidable (pubOk n) := by unfold pubOk; infer_instance
theorem pub_test {n : Nat} (h : pubOk n) : (decide (2 ≤ (n : Int)) && decide ((n : Int) ≤ 2305843009213693949)) = true := by
  obtain ⟨h1, h2⟩ := h
  simp only [Bool.and_eq_true, decide_eq_true_eq]; omega
theorem pub_testF {n : Nat} (h : ¬ pubOk n) : (decide (2 ≤ (n : Int)) && decide ((n : Int) ≤ 2305843009213693949)) = false := by
  rw [Bool.eq_false_iff]
  intro h2
  simp only [Bool.and_eq_true, decide_eq_true_eq] at h2
  exact h ⟨by omega, by omega⟩
theorem pp_lt64 (a : Nat) : a % PP < 2 ^ 64 := by have := mod_pp_lt a; have := pp_lt; omega
/-- The sender's number, the secret, what is sealed. -/
def hfrom (draw : List UInt8) : Nat := 3 ^ powKey draw % PP
def hsec (pub : Nat) (draw : List UInt8) : List UInt8 := Hpke.sec (pub ^ powKey draw % PP) (hfrom draw) pub
def hsealed (pub : Nat) (info beside text draw : List UInt8) : List UInt8 := Aes.sealed (Hpke.hk (hsec pub draw) info) (Hpke.hn (hsec pub draw) info) beside text
def osec (key frm : Nat) : List UInt8 := Hpke.sec (frm ^ key % PP) frm (3 ^ key % PP)
def hopenT (key frm : Nat) (text info beside : List UInt8) : List UInt8 := openedT (Hpke.hk (osec key frm) info) (Hpke.hn (osec key frm) info) beside text
def hopenE (key frm : Nat) (text info beside : List UInt8) : Nat := openedE (Hpke.hk (osec key frm) info) (Hpke.hn (osec key frm) info) beside text

set_option maxHeartbeats 2000000 in
theorem hseal_ok (hG0 : Γ 0 = stC Sha.H0) (hG : Γ 1 = Sha.K.map wV) (pub : Nat) (hp : pubOk pub) (info beside text draw : List UInt8) (hi : info.length ≤ 60000) (hb : beside.length ≤ 2 ^ 30) (ht : text.length ≤ 2 ^ 30) (hd : draw.length ≤ 2 ^ 36) (s : AS) :
    ACalls Tryd.prog Γ 27 [.v (.int .u64 pub), bytesV info .any, bytesV beside .any, bytesV text .any, bytesV draw .any] s
      (fun r s' => r = .tup [.agg [.v (.int .u64 (hfrom draw)), bytesV (hsealed pub info beside text draw) .any], .v (.int .i64 ((0 : Nat) : Int))] ∧ s' = s) := by
  refine acalls_body Tryd.func27 rfl Tryd.ntmps27 Tryd.results27 (by simp) ?_
  have hp64 : pub < 2 ^ 64 := by have := hp.2; omega
  have hke := powKey_lt draw
  have c1 := fun s => powKey_calls (Γ := Γ) hG0 hG draw hd s
  have c2 := fun s => powPublic_calls (Γ := Γ) (powKey draw) (by omega) s
  have c3 := fun s => powShared_calls (Γ := Γ) (powKey draw) pub (by omega) hp64 s
  have c4 := fun s => hkeys_calls (Γ := Γ) hG0 hG (pub ^ powKey draw % PP) (hfrom draw) pub info (pp_lt64 _) hp64 hi s
  have hkl := hk_len (hsec pub draw) info hi
  have hnl := hn_len (hsec pub draw) info hi
  have c5 := fun s => seal_calls (Γ := Γ) hG0 hG (Hpke.hk (hsec pub draw) info) (Hpke.hn (hsec pub draw) info) beside text hb ht s
  simp only [show sealT (Hpke.hk (hsec pub draw) info) (Hpke.hn (hsec pub draw) info) beside text = hsealed pub info beside text draw from by unfold sealT; rw [if_pos ⟨hkl, hnl⟩]; rfl, show sealE (Hpke.hk (hsec pub draw) info) (Hpke.hn (hsec pub draw) info) = 0 from by unfold sealE; rw [if_pos ⟨hkl, hnl⟩]] at c5
  simp only [show Hpke.sec (pub ^ powKey draw % PP) (hfrom draw) pub = hsec pub draw from rfl] at c4
  simp only [show 3 ^ powKey draw % PP = hfrom draw from rfl] at c2
  generalize hsealed pub info beside text draw = z at *
  generalize Hpke.hk (hsec pub draw) info = k at *
  generalize Hpke.hn (hsec pub draw) info = n at *
  generalize pub ^ powKey draw % PP = sh at *
  generalize hfrom draw = f at *
  generalize powKey draw = e at *
  refine awp_reg_seq ?_
  intro K hK
  simp only [↓DN, UP, DF, qSh, qCv, qIA, qIx, qSl, qBu, qCe, qOn, reduceCtorEq, ↓reduceIte, nLT, nLE, nEQ, nAdd, nMul, nPow, nSub, zLT, zLE, zNat, RHpk227]
  intro o ho
  refine hK _ _ ?_
  clear hK K
  refine awp_seq_k ?_
  intro K hK
  refine awp_reg_seq ?_
  intro K hK
  simp only [↓DN, UP, DF, qSh, qCv, qIA, qIx, qSl, qBu, qCe, qOn, reduceCtorEq, ↓reduceIte, nLT, nLE, nEQ, nAdd, nMul, nPow, nSub, zLT, zLE, zNat, RHpk227]
  refine acallk (powerRight_calls pub _) ?_
  rintro r s1 ⟨rfl, rfl⟩
  simp only [↓AXq_nil, ↓AXq_cons, pval, DX, Nat.reduceBEq, ↓DN, UP, DF, qSh, qCv, qIA, qIx, qSl, qBu, qCe, qOn, reduceCtorEq, ↓reduceIte, nLT, nLE, nEQ, nAdd, nMul, nPow, nSub, zLT, zLE, zNat, RHpk227, pub_test hp]
  refine hK _ _ ?_
  clear hK K
  refine awp_cond_k ?_
  intro X Y hX hY
  simp only [↓DN, UP, DF, qSh, qCv, qIA, qIx, qSl, qBu, qCe, qOn, reduceCtorEq, ↓reduceIte, nLT, nLE, nEQ, nAdd, nMul, nPow, nSub, zLT, zLE, zNat, RHpk227, DB]
  refine hY ?_
  clear hX hY X Y
  refine awp_skip ?_
  refine hK _ _ ?_
  clear hK K
  refine awp_reg_seq ?_
  intro K hK
  simp only [↓DN, UP, DF, qSh, qCv, qIA, qIx, qSl, qBu, qCe, qOn, reduceCtorEq, ↓reduceIte, nLT, nLE, nEQ, nAdd, nMul, nPow, nSub, zLT, zLE, zNat, RHpk227]
  refine acallk (c1 _) ?_
  rintro r s2 ⟨rfl, rfl⟩
  simp only [↓AXq_nil, ↓AXq_cons, pval, DX, Nat.reduceBEq, ↓DN, UP, DF, qSh, qCv, qIA, qIx, qSl, qBu, qCe, qOn, reduceCtorEq, ↓reduceIte, nLT, nLE, nEQ, nAdd, nMul, nPow, nSub, zLT, zLE, zNat, RHpk227]
  refine hK _ _ ?_
  clear hK K
  refine awp_reg_seq ?_
  intro K hK
  simp only [↓DN, UP, DF, qSh, qCv, qIA, qIx, qSl, qBu, qCe, qOn, reduceCtorEq, ↓reduceIte, nLT, nLE, nEQ, nAdd, nMul, nPow, nSub, zLT, zLE, zNat, RHpk227]
  refine acallk (c2 _) ?_
  rintro r s3 ⟨rfl, rfl⟩
  simp only [↓AXq_nil, ↓AXq_cons, pval, DX, Nat.reduceBEq, ↓DN, UP, DF, qSh, qCv, qIA, qIx, qSl, qBu, qCe, qOn, reduceCtorEq, ↓reduceIte, nLT, nLE, nEQ, nAdd, nMul, nPow, nSub, zLT, zLE, zNat, RHpk227]
  refine hK _ _ ?_
  clear hK K
  refine awp_reg_seq ?_
  intro K hK
  simp only [↓DN, UP, DF, qSh, qCv, qIA, qIx, qSl, qBu, qCe, qOn, reduceCtorEq, ↓reduceIte, nLT, nLE, nEQ, nAdd, nMul, nPow, nSub, zLT, zLE, zNat, RHpk227]
  refine acallk (c3 _) ?_
  rintro r s4 ⟨rfl, rfl⟩
  simp only [↓AXq_nil, ↓AXq_cons, pval, DX, Nat.reduceBEq, ↓DN, UP, DF, qSh, qCv, qIA, qIx, qSl, qBu, qCe, qOn, reduceCtorEq, ↓reduceIte, nLT, nLE, nEQ, nAdd, nMul, nPow, nSub, zLT, zLE, zNat, RHpk227]
  refine acallk (c4 _) ?_
  rintro r s5 ⟨rfl, rfl⟩
  simp only [↓AXq_nil, ↓AXq_cons, pval, DX, Nat.reduceBEq, ↓DN, UP, DF, qSh, qCv, qIA, qIx, qSl, qBu, qCe, qOn, reduceCtorEq, ↓reduceIte, nLT, nLE, nEQ, nAdd, nMul, nPow, nSub, zLT, zLE, zNat, RHpk227]
  refine hK _ _ ?_
  clear hK K
  refine awp_seq_k ?_
  intro K hK
  refine awp_reg_seq ?_
  intro K hK
  simp only [↓DN, UP, DF, qSh, qCv, qIA, qIx, qSl, qBu, qCe, qOn, reduceCtorEq, ↓reduceIte, nLT, nLE, nEQ, nAdd, nMul, nPow, nSub, zLT, zLE, zNat, RHpk227]
  refine hK _ _ ?_
  clear hK K
  refine awp_cond_k ?_
  intro X Y hX hY
  simp only [↓DN, UP, DF, qSh, qCv, qIA, qIx, qSl, qBu, qCe, qOn, reduceCtorEq, ↓reduceIte, nLT, nLE, nEQ, nAdd, nMul, nPow, nSub, zLT, zLE, zNat, RHpk227, DB]
  refine hY ?_
  clear hX hY X Y
  refine awp_skip ?_
  refine hK _ _ ?_
  clear hK K
  refine awp_reg_seq ?_
  intro K hK
  simp only [↓DN, UP, DF, qSh, qCv, qIA, qIx, qSl, qBu, qCe, qOn, reduceCtorEq, ↓reduceIte, nLT, nLE, nEQ, nAdd, nMul, nPow, nSub, zLT, zLE, zNat, RHpk227]
  refine acallk (c5 _) ?_
  rintro r s6 ⟨rfl, rfl⟩
  simp only [↓AXq_nil, ↓AXq_cons, pval, DX, Nat.reduceBEq, ↓DN, UP, DF, qSh, qCv, qIA, qIx, qSl, qBu, qCe, qOn, reduceCtorEq, ↓reduceIte, nLT, nLE, nEQ, nAdd, nMul, nPow, nSub, zLT, zLE, zNat, RHpk227]
  refine hK _ _ ?_
  clear hK K
  refine awp_seq_k ?_
  intro K hK
  refine awp_reg_seq ?_
  intro K hK
  simp only [↓DN, UP, DF, qSh, qCv, qIA, qIx, qSl, qBu, qCe, qOn, reduceCtorEq, ↓reduceIte, nLT, nLE, nEQ, nAdd, nMul, nPow, nSub, zLT, zLE, zNat, RHpk227, show (((0 : Nat) : Int) != 0) = false from rfl]
  refine hK _ _ ?_
  clear hK K
  refine awp_cond_k ?_
  intro X Y hX hY
  simp only [↓DN, UP, DF, qSh, qCv, qIA, qIx, qSl, qBu, qCe, qOn, reduceCtorEq, ↓reduceIte, nLT, nLE, nEQ, nAdd, nMul, nPow, nSub, zLT, zLE, zNat, RHpk227, DB]
  refine hY ?_
  clear hX hY X Y
  refine awp_skip ?_
  refine hK _ _ ?_
  clear hK K
  refine awp_reg_seq ?_
  intro K hK
  simp only [↓DN, UP, DF, qSh, qCv, qIA, qIx, qSl, qBu, qCe, qOn, reduceCtorEq, ↓reduceIte, nLT, nLE, nEQ, nAdd, nMul, nPow, nSub, zLT, zLE, zNat, RHpk227]
  refine hK _ _ ?_
  clear hK K
  refine awp_ret ?_
  refine aends_cell_tmp (o := o) (off := 0) (by simp only [upd, nEQ, ↓reduceIte]) (AS.set_objs_same _ _ _) (by rw [T.c46]; decide) (by simp only [↓DN, UP, DF, qSh, qCv, qIA, qIx, qSl, qBu, qCe, qOn, reduceCtorEq, ↓reduceIte, nLT, nLE, nEQ, nAdd, nMul, nPow, nSub, zLT, zLE, zNat, RHpk227]; rfl) ?_
  exact ⟨_, s, AV.weak.refl _, AS.le_set (AS.le.refl s) ho _, rfl, rfl⟩

end Go.Proofs.YtooeklnbdgoneaaDoor


set_option autoImplicit false
namespace Go.Proofs.YtooeklnbdgoneaaDoor
open Go Go.AM Go.Proofs

theorem RHpk329 : type_of% (And.intro (And.intro (And.intro (And.intro (And.intro (And.intro @Tryd.underlying4 T.c4) (And.intro T.g4 T.b4)) (And.intro (And.intro T.z4 @Tryd.underlying5) (And.intro T.c5 T.g5))) (And.intro (And.intro (And.intro T.b5 T.z5) (And.intro @Tryd.underlying22 T.c22)) (And.intro (And.intro T.g22 T.b22) (And.intro T.z22 (And.intro T.s22 @Tryd.underlying41))))) (And.intro (And.intro (And.intro (And.intro T.c41 T.g41) (And.intro T.b41 T.z41)) (And.intro (And.intro @Tryd.underlying46 T.c46) (And.intro T.g46 T.b46))) (And.intro (And.intro (And.intro T.z46 T.h46) (And.intro T.f46_0 T.f46_1)) (And.intro (And.intro T.k62 T.k54) (And.intro T.k60 (And.intro T.k64 T.k63)))))) Tryd.ntmps29) :=
  (And.intro (And.intro (And.intro (And.intro (And.intro (And.intro @Tryd.underlying4 T.c4) (And.intro T.g4 T.b4)) (And.intro (And.intro T.z4 @Tryd.underlying5) (And.intro T.c5 T.g5))) (And.intro (And.intro (And.intro T.b5 T.z5) (And.intro @Tryd.underlying22 T.c22)) (And.intro (And.intro T.g22 T.b22) (And.intro T.z22 (And.intro T.s22 @Tryd.underlying41))))) (And.intro (And.intro (And.intro (And.intro T.c41 T.g41) (And.intro T.b41 T.z41)) (And.intro (And.intro @Tryd.underlying46 T.c46) (And.intro T.g46 T.b46))) (And.intro (And.intro (And.intro T.z46 T.h46) (And.intro T.f46_0 T.f46_1)) (And.intro (And.intro T.k62 T.k54) (And.intro T.k60 (And.intro T.k64 T.k63)))))) Tryd.ntmps29)
variable {Γ : Nat → List AV}

def openOk (key frm : Nat) : Prop := pubOk frm ∧ 1 ≤ key ∧ key ≤ 2305843009213693949
instance (key frm : Nat) : Decidable (openOk key frm) := by unfold openOk; infer_instance

set_option maxHeartbeats 2000000 in
theorem hopen_ok (hG0 : Γ 0 = stC Sha.H0) (hG : Γ 1 = Sha.K.map wV) (key frm : Nat) (hk : openOk key frm) (text info beside : List UInt8) (hi : info.length ≤ 60000) (hb : beside.length ≤ 2 ^ 30) (ht : text.length ≤ 2 ^ 30) (s : AS) :
    ACalls Tryd.prog Γ 29 [.v (.int .u64 key), .agg [.v (.int .u64 frm), bytesV text .any], bytesV info .any, bytesV beside .any] s
      (fun r s' => r = .tup [bytesV (hopenT key frm text info beside) .any, .v (.int .i64 ((hopenE key frm text info beside : Nat) : Int))] ∧ s' = s) := by
  refine acalls_body Tryd.func29 rfl Tryd.ntmps29 Tryd.results29 (by simp) ?_
  obtain ⟨hp, h1, h2⟩ := hk
  have hp64 : frm < 2 ^ 64 := by have := hp.2; omega
  have c2 := fun s => powPublic_calls (Γ := Γ) key (by omega) s
  have c3 := fun s => powShared_calls (Γ := Γ) key frm (by omega) hp64 s
  have c4 := fun s => hkeys_calls (Γ := Γ) hG0 hG (frm ^ key % PP) frm (3 ^ key % PP) info hp64 (pp_lt64 _) hi s
  have hkl := hk_len (osec key frm) info hi
  have hnl := hn_len (osec key frm) info hi
  have c5 := fun s => open_seal_calls (Γ := Γ) hG0 hG (Hpke.hk (osec key frm) info) (Hpke.hn (osec key frm) info) beside text hb ht s
  simp only [show opT (Hpke.hk (osec key frm) info) (Hpke.hn (osec key frm) info) beside text = hopenT key frm text info beside from by unfold opT; rw [if_pos ⟨hkl, hnl⟩]; rfl, show opE (Hpke.hk (osec key frm) info) (Hpke.hn (osec key frm) info) beside text = hopenE key frm text info beside from by unfold opE; rw [if_pos ⟨hkl, hnl⟩]; rfl] at c5
  simp only [show Hpke.sec (frm ^ key % PP) frm (3 ^ key % PP) = osec key frm from rfl] at c4
  generalize hopenT key frm text info beside = z at *
  generalize hopenE key frm text info beside = y at *
  generalize Hpke.hk (osec key frm) info = k at *
  generalize Hpke.hn (osec key frm) info = n at *
  generalize frm ^ key % PP = sh at *
  generalize 3 ^ key % PP = to at *
  refine awp_reg_frz 5 (by simp [dsts]) ?_
  intro K hK
  simp only [↓AXq_nil, ↓AXq_cons, pval, DX, Nat.reduceBEq, ↓DN, UP, DF, qSh, qCv, qIA, qIx, qSl, qBu, qCe, qOn, reduceCtorEq, ↓reduceIte, nLT, nLE, nEQ, nAdd, nMul, nPow, nSub, zLT, zLE, zNat, RHpk329]
  intro o ho
  refine hK _ _ o _ (by simp only [upd, nEQ, ↓reduceIte]) ho ?_
  clear hK K ho
  refine awp_seq_k ?_
  intro K hK
  refine awp_reg_seq ?_
  intro K hK
  simp only [↓DN, UP, DF, qSh, qCv, qIA, qIx, qSl, qBu, qCe, qOn, reduceCtorEq, ↓reduceIte, nLT, nLE, nEQ, nAdd, nMul, nPow, nSub, zLT, zLE, zNat, RHpk329]
  refine acallk (powerRight_calls frm _) ?_
  rintro r s1 ⟨rfl, rfl⟩
  simp only [↓AXq_nil, ↓AXq_cons, pval, DX, Nat.reduceBEq, ↓DN, UP, DF, qSh, qCv, qIA, qIx, qSl, qBu, qCe, qOn, reduceCtorEq, ↓reduceIte, nLT, nLE, nEQ, nAdd, nMul, nPow, nSub, zLT, zLE, zNat, RHpk329, pub_test hp, decide_eq_false (show ¬ (key : Int) < 1 by omega), decide_eq_false (show ¬ (2305843009213693949 : Int) < (key : Int) by omega)]
  refine hK _ _ ?_
  clear hK K
  refine awp_cond_k ?_
  intro X Y hX hY
  simp only [↓DN, UP, DF, qSh, qCv, qIA, qIx, qSl, qBu, qCe, qOn, reduceCtorEq, ↓reduceIte, nLT, nLE, nEQ, nAdd, nMul, nPow, nSub, zLT, zLE, zNat, RHpk329, DB]
  refine hY ?_
  clear hX hY X Y
  refine awp_skip ?_
  refine hK _ _ ?_
  clear hK K
  refine awp_drw_seq T.mixed [3, 7, 9] (by kernel_rfl) ?_
  intro K hK
  simp only [↓AXq_nil, ↓AXq_cons, pval, DX, Nat.reduceBEq, ↓DN, UP, DF, qSh, qCv, qIA, qIx, qSl, qBu, qCe, qOn, reduceCtorEq, ↓reduceIte, nLT, nLE, nEQ, nAdd, nMul, nPow, nSub, zLT, zLE, zNat, RHpk329]
  refine acallk (c3 _) ?_
  rintro r s2 ⟨rfl, rfl⟩
  simp only [↓AXq_nil, ↓AXq_cons, pval, DX, Nat.reduceBEq, ↓DN, UP, DF, qSh, qCv, qIA, qIx, qSl, qBu, qCe, qOn, reduceCtorEq, ↓reduceIte, nLT, nLE, nEQ, nAdd, nMul, nPow, nSub, zLT, zLE, zNat, RHpk329]
  refine acallk (c2 _) ?_
  rintro r s3 ⟨rfl, rfl⟩
  simp only [↓AXq_nil, ↓AXq_cons, pval, DX, Nat.reduceBEq, ↓DN, UP, DF, qSh, qCv, qIA, qIx, qSl, qBu, qCe, qOn, reduceCtorEq, ↓reduceIte, nLT, nLE, nEQ, nAdd, nMul, nPow, nSub, zLT, zLE, zNat, RHpk329]
  refine acallk (c4 _) ?_
  rintro r s4 ⟨rfl, rfl⟩
  simp only [↓AXq_nil, ↓AXq_cons, pval, DX, Nat.reduceBEq, ↓DN, UP, DF, qSh, qCv, qIA, qIx, qSl, qBu, qCe, qOn, reduceCtorEq, ↓reduceIte, nLT, nLE, nEQ, nAdd, nMul, nPow, nSub, zLT, zLE, zNat, RHpk329]
  refine hK _ _ ?_
  clear hK K
  refine awp_seq_k ?_
  intro K hK
  refine awp_reg_seq ?_
  intro K hK
  simp only [↓DN, UP, DF, qSh, qCv, qIA, qIx, qSl, qBu, qCe, qOn, reduceCtorEq, ↓reduceIte, nLT, nLE, nEQ, nAdd, nMul, nPow, nSub, zLT, zLE, zNat, RHpk329]
  refine hK _ _ ?_
  clear hK K
  refine awp_cond_k ?_
  intro X Y hX hY
  simp only [↓DN, UP, DF, qSh, qCv, qIA, qIx, qSl, qBu, qCe, qOn, reduceCtorEq, ↓reduceIte, nLT, nLE, nEQ, nAdd, nMul, nPow, nSub, zLT, zLE, zNat, RHpk329, DB]
  refine hY ?_
  clear hX hY X Y
  refine awp_skip ?_
  refine hK _ _ ?_
  clear hK K
  refine awp_reg_seq ?_
  intro K hK
  simp only [↓DN, UP, DF, qSh, qCv, qIA, qIx, qSl, qBu, qCe, qOn, reduceCtorEq, ↓reduceIte, nLT, nLE, nEQ, nAdd, nMul, nPow, nSub, zLT, zLE, zNat, RHpk329]
  refine acallk (c5 _) ?_
  rintro r s5 ⟨rfl, rfl⟩
  simp only [↓AXq_nil, ↓AXq_cons, pval, DX, Nat.reduceBEq, ↓DN, UP, DF, qSh, qCv, qIA, qIx, qSl, qBu, qCe, qOn, reduceCtorEq, ↓reduceIte, nLT, nLE, nEQ, nAdd, nMul, nPow, nSub, zLT, zLE, zNat, RHpk329]
  refine hK _ _ ?_
  clear hK K
  refine awp_ret ?_
  simp only [retQ, AEnds, aresL, ares, List.toList_toArray, ↓upd_same]; try simp only [↓DN, UP, DF, qSh, qCv, qIA, qIx, qSl, qBu, qCe, qOn, reduceCtorEq, ↓reduceIte, nLT, nLE, nEQ, nAdd, nMul, nPow, nSub, zLT, zLE, zNat, RHpk329, DT]
  exact ⟨_, _, AV.weak.refl _, AS.le.refl _, rfl, rfl⟩

end Go.Proofs.YtooeklnbdgoneaaDoor


set_option autoImplicit false
namespace Go.AM
open Go

theorem IsTy.record {avs : List AV} (h : IsTy (.struct (.cons tyI (.cons tyB (.cons tyI (.cons tyI (.cons tyI (.cons tyB (.cons tyB (.cons tyB (.cons tyB .nil)))))))))) avs) : ∃ R : Rec, avs = R.cells := by
  obtain ⟨x1, y1, rfl, t1, h⟩ := isF_cons (isTy_struct h)
  obtain ⟨x2, y2, rfl, t2, h⟩ := isF_cons h
  obtain ⟨x3, y3, rfl, t3, h⟩ := isF_cons h
  obtain ⟨x4, y4, rfl, t4, h⟩ := isF_cons h
  obtain ⟨x5, y5, rfl, t5, h⟩ := isF_cons h
  obtain ⟨x6, y6, rfl, t6, h⟩ := isF_cons h
  obtain ⟨x7, y7, rfl, t7, h⟩ := isF_cons h
  obtain ⟨x8, y8, rfl, t8, h⟩ := isF_cons h
  obtain ⟨x9, y9, rfl, t9, h⟩ := isF_cons h
  obtain rfl := isF_nil h
  obtain ⟨n1, rfl, _⟩ := isTy_int t1
  obtain ⟨l2, rfl, _⟩ := t2.bytes
  obtain ⟨n3, rfl, _⟩ := isTy_int t3
  obtain ⟨n4, rfl, _⟩ := isTy_int t4
  obtain ⟨n5, rfl, _⟩ := isTy_int t5
  obtain ⟨l6, rfl, _⟩ := t6.bytes
  obtain ⟨l7, rfl, _⟩ := t7.bytes
  obtain ⟨l8, rfl, _⟩ := t8.bytes
  obtain ⟨l9, rfl, _⟩ := t9.bytes
  exact ⟨⟨n1, l2, n3, n4, n5, l6, l7, l8, l9⟩, rfl⟩
end Go.AM


set_option autoImplicit false
namespace Go.Proofs.YtooeklnbdgoneaaDoor
open Go Go.AM Go.Proofs

theorem RHpk425 : type_of% (And.intro (And.intro (And.intro (And.intro (And.intro (And.intro @Tryd.underlying5 T.c5) (And.intro T.g5 T.b5)) (And.intro (And.intro T.z5 @Tryd.underlying9) (And.intro T.c9 (And.intro T.g9 T.b9)))) (And.intro (And.intro (And.intro T.z9 @Tryd.underlying22) (And.intro T.c22 T.g22)) (And.intro (And.intro T.b22 T.z22) (And.intro T.s22 (And.intro @Tryd.underlying30 T.c30))))) (And.intro (And.intro (And.intro (And.intro T.g30 T.b30) (And.intro T.z30 @Tryd.underlying41)) (And.intro (And.intro T.c41 T.g41) (And.intro T.b41 (And.intro T.z41 @Tryd.underlying46)))) (And.intro (And.intro (And.intro T.c46 T.g46) (And.intro T.b46 T.z46)) (And.intro (And.intro T.h46 T.k29) (And.intro T.k31 (And.intro T.k27 T.k32)))))) Tryd.ntmps25) :=
  (And.intro (And.intro (And.intro (And.intro (And.intro (And.intro @Tryd.underlying5 T.c5) (And.intro T.g5 T.b5)) (And.intro (And.intro T.z5 @Tryd.underlying9) (And.intro T.c9 (And.intro T.g9 T.b9)))) (And.intro (And.intro (And.intro T.z9 @Tryd.underlying22) (And.intro T.c22 T.g22)) (And.intro (And.intro T.b22 T.z22) (And.intro T.s22 (And.intro @Tryd.underlying30 T.c30))))) (And.intro (And.intro (And.intro (And.intro T.g30 T.b30) (And.intro T.z30 @Tryd.underlying41)) (And.intro (And.intro T.c41 T.g41) (And.intro T.b41 (And.intro T.z41 @Tryd.underlying46)))) (And.intro (And.intro (And.intro T.c46 T.g46) (And.intro T.b46 T.z46)) (And.intro (And.intro T.h46 T.k29) (And.intro T.k31 (And.intro T.k27 T.k32)))))) Tryd.ntmps25)
variable {Γ : Nat → List AV}

theorem aw_ka : powKey [97] = 1514935092797558479 := by
  have h := Hpke.ka_is
  unfold powKey
  rw [show Kdf.label [97] keyW [] 8 = Hpke.la from Hpke.la_is]
  exact h
theorem aw_kd : powKey [100] = 1896543153640479001 := by
  have h := Hpke.kd_is
  unfold powKey
  rw [show Kdf.label [100] keyW [] 8 = Hpke.ld from Hpke.ld_is]
  exact h
theorem aw_pub : 3 ^ powKey [97] % PP = 1698461819911046417 := (congrArg (fun e => 3 ^ e % PP) aw_ka).trans Hpke.pub_is
theorem aw_from0 : 3 ^ powKey [100] % PP = 286126448538016316 := (congrArg (fun e => 3 ^ e % PP) aw_kd).trans Hpke.from_is
theorem hfrom_eq (d : List UInt8) : hfrom d = 3 ^ powKey d % PP := rfl
theorem hsec_eq (p : Nat) (d : List UInt8) : hsec p d = Hpke.sec (p ^ powKey d % PP) (hfrom d) p := rfl
theorem osec_eq (k f : Nat) : osec k f = Hpke.sec (f ^ k % PP) f (3 ^ k % PP) := rfl
theorem aw_from : hfrom [100] = 286126448538016316 := (hfrom_eq [100]).trans aw_from0
theorem aw_sh0 : 1698461819911046417 ^ powKey [100] % PP = 1257739691807743659 := (congrArg (fun e => 1698461819911046417 ^ e % PP) aw_kd).trans Hpke.sh_is
theorem aw_hs0 : 286126448538016316 ^ powKey [97] % PP = 1257739691807743659 := (congrArg (fun e => 286126448538016316 ^ e % PP) aw_ka).trans Hpke.hs_is
theorem aw_hsec : hsec (3 ^ powKey [97] % PP) [100] = Hpke.sec0 := by
  rw [aw_pub, hsec_eq, aw_from, aw_sh0]
  exact Hpke.sec_is
theorem aw_osec : osec (powKey [97]) (hfrom [100]) = Hpke.sec0 := by
  rw [aw_from, osec_eq, aw_hs0, aw_pub]
  exact Hpke.sec_is
/-- What the example's text is sealed to. -/
def z08 : List UInt8 := Aes.sealed Hpke.ki Hpke.ni [] Hpke.text0
theorem z08_is : z08 = Hpke.m0 ++ Hpke.t0 := by
  unfold z08
  rw [Aes.sealed, Hpke.m0_is, Hpke.t0_is]
theorem aw_hsealed : hsealed (3 ^ powKey [97] % PP) [105] [] Hpke.text0 [100] = z08 := by
  unfold hsealed z08
  rw [aw_hsec, Hpke.ki_is, Hpke.ni_is]
theorem aw_openT : hopenT (powKey [97]) (hfrom [100]) z08 [105] [] = Hpke.text0 := by
  unfold hopenT z08
  rw [aw_osec, Hpke.ki_is, Hpke.ni_is, opened_sealedT]
theorem aw_openE : hopenE (powKey [97]) (hfrom [100]) z08 [105] [] = 0 := by
  unfold hopenE z08
  rw [aw_osec, Hpke.ki_is, Hpke.ni_is, opened_sealedE]
theorem aw_openE2 : hopenE (powKey [97]) (hfrom [100]) z08 [106] [] = 14 := by
  unfold hopenE
  rw [aw_osec, Hpke.kj_is, Hpke.nj_is, z08_is]
  unfold openedE
  rw [if_neg (by decide), show (Hpke.m0 ++ Hpke.t0).take ((Hpke.m0 ++ Hpke.t0).length - 16) = Hpke.m0 from rfl, show (Hpke.m0 ++ Hpke.t0).drop ((Hpke.m0 ++ Hpke.t0).length - 16) = Hpke.t0 from rfl, if_neg Hpke.tj_not]
theorem aw_pubOk : pubOk (3 ^ powKey [97] % PP) := by rw [aw_pub]; decide
theorem aw_openOk : openOk (powKey [97]) (hfrom [100]) := by
  refine ⟨by rw [aw_from]; decide, powKey_pos _, ?_⟩
  have := powKey_lt [97]
  omega

set_option maxHeartbeats 4000000 in
set_option maxRecDepth 100000 in
theorem awake08_calls (hG0 : Γ 0 = stC Sha.H0) (hG : Γ 1 = Sha.K.map wV) (s : AS) :
    ACalls Tryd.prog Γ 25 [] s (fun r s' => r = .v (.bool true) ∧ s' = s) := by
  refine acalls_body Tryd.func25 rfl Tryd.ntmps25 Tryd.results25 (by simp) ?_
  have c0 := fun s => refKey07_calls (Γ := Γ) [97] (by decide) s
  have c1 := fun s => refPublic07_calls (Γ := Γ) (powKey [97]) (by have := powKey_lt [97]; omega) s
  have c2 := fun s => hseal_ok (Γ := Γ) hG0 hG (3 ^ powKey [97] % PP) aw_pubOk [105] [] Hpke.text0 [100] (by decide) (by decide) (by decide) (by decide) s
  have c3 := fun s => hopen_ok (Γ := Γ) hG0 hG (powKey [97]) (hfrom [100]) aw_openOk z08 [105] [] (by decide) (by decide) (by rw [z08_is]; decide) s
  have c4 := fun s => hopen_ok (Γ := Γ) hG0 hG (powKey [97]) (hfrom [100]) aw_openOk z08 [106] [] (by decide) (by decide) (by rw [z08_is]; decide) s
  rw [aw_hsealed] at c2
  rw [aw_openT, aw_openE] at c3
  rw [aw_openE2] at c4
  generalize hopenT (powKey [97]) (hfrom [100]) z08 [106] [] = u at *
  generalize 3 ^ powKey [97] % PP = pub at *
  generalize powKey [97] = K0 at *
  generalize hfrom [100] = f at *
  generalize z08 = z at *
  have hrep1 : ∀ x : AV, List.replicate 1 x = [x] := fun _ => rfl
  have hrep4 : ∀ x : AV, List.replicate 4 x = [x, x, x, x] := fun _ => rfl
  refine awp_reg_seq ?_
  intro K hK
  simp only [↓DN, UP, DF, qSh, qCv, qIA, qIx, qSl, qBu, qCe, qOn, reduceCtorEq, ↓reduceIte, nLT, nLE, nEQ, nAdd, nMul, nPow, nSub, zLT, zLE, zNat, RHpk425]
  refine hK _ _ ?_
  clear hK K
  refine awp_reg_seq ?_
  intro K hK
  simp only [↓DN, UP, DF, qSh, qCv, qIA, qIx, qSl, qBu, qCe, qOn, reduceCtorEq, ↓reduceIte, nLT, nLE, nEQ, nAdd, nMul, nPow, nSub, zLT, zLE, zNat, RHpk425]
  refine acallk (c0 _) ?_
  rintro r s1 ⟨rfl, rfl⟩
  simp only [↓AXq_nil, ↓AXq_cons, pval, DX, Nat.reduceBEq, ↓DN, UP, DF, qSh, qCv, qIA, qIx, qSl, qBu, qCe, qOn, reduceCtorEq, ↓reduceIte, nLT, nLE, nEQ, nAdd, nMul, nPow, nSub, zLT, zLE, zNat, RHpk425]
  refine hK _ _ ?_
  clear hK K
  refine awp_reg_seq ?_
  intro K hK
  simp only [↓DN, UP, DF, qSh, qCv, qIA, qIx, qSl, qBu, qCe, qOn, reduceCtorEq, ↓reduceIte, nLT, nLE, nEQ, nAdd, nMul, nPow, nSub, zLT, zLE, zNat, RHpk425]
  refine acallk (c1 _) ?_
  rintro r s2 ⟨rfl, rfl⟩
  simp only [↓AXq_nil, ↓AXq_cons, pval, DX, Nat.reduceBEq, ↓DN, UP, DF, qSh, qCv, qIA, qIx, qSl, qBu, qCe, qOn, reduceCtorEq, ↓reduceIte, nLT, nLE, nEQ, nAdd, nMul, nPow, nSub, zLT, zLE, zNat, RHpk425, hrep1, hrep4]
  refine acallk (ACalls.weaks (AVs.weak.cons (AV.weak.refl _) (AVs.weak.cons (AV.weak_any) (AVs.weak.cons (AV.weak_nil (sz := 1)) (AVs.weak.cons (AV.weak_any) (AVs.weak.cons (AV.weak_any) AVs.weak.nil))))) (c2 _)) ?_
  rintro r s3 ⟨rfl, rfl⟩
  simp only [↓AXq_nil, ↓AXq_cons, pval, DX, Nat.reduceBEq, ↓DN, UP, DF, qSh, qCv, qIA, qIx, qSl, qBu, qCe, qOn, reduceCtorEq, ↓reduceIte, nLT, nLE, nEQ, nAdd, nMul, nPow, nSub, zLT, zLE, zNat, RHpk425]
  intro o ho
  refine hK _ _ ?_
  clear hK K
  refine awp_reg_seq ?_
  intro K hK
  simp only [↓DN, UP, DF, qSh, qCv, qIA, qIx, qSl, qBu, qCe, qOn, reduceCtorEq, ↓reduceIte, nLT, nLE, nEQ, nAdd, nMul, nPow, nSub, zLT, zLE, zNat, RHpk425, hrep1]
  refine acallk (ACalls.weaks (AVs.weak.cons (AV.weak.refl _) (AVs.weak.cons (AV.weak.refl _) (AVs.weak.cons (AV.weak_any) (AVs.weak.cons (AV.weak_nil (sz := 1)) AVs.weak.nil)))) (c3 _)) ?_
  rintro r s4 ⟨rfl, rfl⟩
  simp only [↓AXq_nil, ↓AXq_cons, pval, DX, Nat.reduceBEq, ↓DN, UP, DF, qSh, qCv, qIA, qIx, qSl, qBu, qCe, qOn, reduceCtorEq, ↓reduceIte, nLT, nLE, nEQ, nAdd, nMul, nPow, nSub, zLT, zLE, zNat, RHpk425]
  refine hK _ _ ?_
  clear hK K
  refine awp_reg_seq ?_
  intro K hK
  simp only [↓DN, UP, DF, qSh, qCv, qIA, qIx, qSl, qBu, qCe, qOn, reduceCtorEq, ↓reduceIte, nLT, nLE, nEQ, nAdd, nMul, nPow, nSub, zLT, zLE, zNat, RHpk425, hrep1]
  refine acallk (ACalls.weaks (AVs.weak.cons (AV.weak.refl _) (AVs.weak.cons (AV.weak.refl _) (AVs.weak.cons (AV.weak_any) (AVs.weak.cons (AV.weak_nil (sz := 1)) AVs.weak.nil)))) (c4 _)) ?_
  rintro r s5 ⟨rfl, rfl⟩
  simp only [↓AXq_nil, ↓AXq_cons, pval, DX, Nat.reduceBEq, ↓DN, UP, DF, qSh, qCv, qIA, qIx, qSl, qBu, qCe, qOn, reduceCtorEq, ↓reduceIte, nLT, nLE, nEQ, nAdd, nMul, nPow, nSub, zLT, zLE, zNat, RHpk425]
  refine hK _ _ ?_
  clear hK K
  have htx : (ByteArray.mk Hpke.text0.toArray).toList = [116, 101, 120, 116] := by rw [ByteArray.toList_mk]; rfl
  refine awp_reg_seq ?_
  intro K hK
  simp only [↓DN, UP, DF, qSh, qCv, qIA, qIx, qSl, qBu, qCe, qOn, reduceCtorEq, ↓reduceIte, nLT, nLE, nEQ, nAdd, nMul, nPow, nSub, zLT, zLE, zNat, RHpk425, show (((0 : Nat) : Int) == 0) = true from rfl, show (((14 : Nat) : Int) == 14) = true from rfl, htx]
  refine hK _ _ ?_
  clear hK K
  refine awp_ret ?_
  simp only [retQ, AEnds, aresL, ares, List.toList_toArray, ↓upd_same]; try simp only [↓DN, UP, DF, qSh, qCv, qIA, qIx, qSl, qBu, qCe, qOn, reduceCtorEq, ↓reduceIte, nLT, nLE, nEQ, nAdd, nMul, nPow, nSub, zLT, zLE, zNat, RHpk425, DT]
  exact ⟨_, _, AV.weak.refl _, AS.le_set (AS.le.refl _) ho _, rfl, rfl⟩

end Go.Proofs.YtooeklnbdgoneaaDoor


set_option autoImplicit false
namespace Go.Proofs.YtooeklnbdgoneaaDoor
open Go Go.AM Go.Proofs

theorem RHpk738 : type_of% (And.intro (And.intro (And.intro (And.intro (And.intro (And.intro @Tryd.underlying3 (And.intro T.c3 T.g3)) (And.intro (And.intro T.b3 T.z3) (And.intro @Tryd.underlying4 T.c4))) (And.intro (And.intro T.g4 (And.intro T.b4 T.z4)) (And.intro (And.intro @Tryd.underlying5 T.c5) (And.intro T.g5 T.b5)))) (And.intro (And.intro (And.intro T.z5 (And.intro @Tryd.underlying22 T.c22)) (And.intro (And.intro T.g22 T.b22) (And.intro T.z22 T.s22))) (And.intro (And.intro @Tryd.underlying30 (And.intro T.c30 T.g30)) (And.intro (And.intro T.b30 T.z30) (And.intro @Tryd.underlying41 T.c41))))) (And.intro (And.intro (And.intro (And.intro T.g41 (And.intro T.b41 T.z41)) (And.intro (And.intro @Tryd.underlying46 T.c46) (And.intro T.g46 T.b46))) (And.intro (And.intro T.z46 (And.intro T.h46 @Tryd.underlying66)) (And.intro (And.intro T.c66 T.g66) (And.intro T.b66 T.z66)))) (And.intro (And.intro (And.intro T.p66 (And.intro @Tryd.underlying108 T.c108)) (And.intro (And.intro T.g108 T.b108) (And.intro T.z108 T.h108))) (And.intro (And.intro T.f46_0 (And.intro T.f46_1 T.k71)) (And.intro (And.intro T.k60 T.k73) (And.intro T.k74 T.k72)))))) Tryd.ntmps38) :=
  (And.intro (And.intro (And.intro (And.intro (And.intro (And.intro @Tryd.underlying3 (And.intro T.c3 T.g3)) (And.intro (And.intro T.b3 T.z3) (And.intro @Tryd.underlying4 T.c4))) (And.intro (And.intro T.g4 (And.intro T.b4 T.z4)) (And.intro (And.intro @Tryd.underlying5 T.c5) (And.intro T.g5 T.b5)))) (And.intro (And.intro (And.intro T.z5 (And.intro @Tryd.underlying22 T.c22)) (And.intro (And.intro T.g22 T.b22) (And.intro T.z22 T.s22))) (And.intro (And.intro @Tryd.underlying30 (And.intro T.c30 T.g30)) (And.intro (And.intro T.b30 T.z30) (And.intro @Tryd.underlying41 T.c41))))) (And.intro (And.intro (And.intro (And.intro T.g41 (And.intro T.b41 T.z41)) (And.intro (And.intro @Tryd.underlying46 T.c46) (And.intro T.g46 T.b46))) (And.intro (And.intro T.z46 (And.intro T.h46 @Tryd.underlying66)) (And.intro (And.intro T.c66 T.g66) (And.intro T.b66 T.z66)))) (And.intro (And.intro (And.intro T.p66 (And.intro @Tryd.underlying108 T.c108)) (And.intro (And.intro T.g108 T.b108) (And.intro T.z108 T.h108))) (And.intro (And.intro T.f46_0 (And.intro T.f46_1 T.k71)) (And.intro (And.intro T.k60 T.k73) (And.intro T.k74 T.k72)))))) Tryd.ntmps38)
theorem RHpk739 : type_of% (And.intro (And.intro (And.intro (And.intro (And.intro (And.intro @Tryd.underlying3 T.c3) (And.intro T.g3 (And.intro T.b3 T.z3))) (And.intro (And.intro @Tryd.underlying4 (And.intro T.c4 T.g4)) (And.intro T.b4 (And.intro T.z4 @Tryd.underlying9)))) (And.intro (And.intro (And.intro T.c9 T.g9) (And.intro T.b9 (And.intro T.z9 @Tryd.underlying41))) (And.intro (And.intro T.c41 (And.intro T.g41 T.b41)) (And.intro T.z41 (And.intro @Tryd.underlying50 T.c50))))) (And.intro (And.intro (And.intro (And.intro T.g50 T.b50) (And.intro T.z50 (And.intro T.h50 @Tryd.underlying68))) (And.intro (And.intro T.c68 (And.intro T.g68 T.b68)) (And.intro T.z68 (And.intro T.p68 @Tryd.underlying70)))) (And.intro (And.intro (And.intro T.c70 T.g70) (And.intro T.b70 (And.intro T.z70 T.h70))) (And.intro (And.intro T.f50_0 (And.intro T.f50_1 T.f70_1)) (And.intro T.k33 (And.intro T.k76 T.k75)))))) Tryd.ntmps39) :=
  (And.intro (And.intro (And.intro (And.intro (And.intro (And.intro @Tryd.underlying3 T.c3) (And.intro T.g3 (And.intro T.b3 T.z3))) (And.intro (And.intro @Tryd.underlying4 (And.intro T.c4 T.g4)) (And.intro T.b4 (And.intro T.z4 @Tryd.underlying9)))) (And.intro (And.intro (And.intro T.c9 T.g9) (And.intro T.b9 (And.intro T.z9 @Tryd.underlying41))) (And.intro (And.intro T.c41 (And.intro T.g41 T.b41)) (And.intro T.z41 (And.intro @Tryd.underlying50 T.c50))))) (And.intro (And.intro (And.intro (And.intro T.g50 T.b50) (And.intro T.z50 (And.intro T.h50 @Tryd.underlying68))) (And.intro (And.intro T.c68 (And.intro T.g68 T.b68)) (And.intro T.z68 (And.intro T.p68 @Tryd.underlying70)))) (And.intro (And.intro (And.intro T.c70 T.g70) (And.intro T.b70 (And.intro T.z70 T.h70))) (And.intro (And.intro T.f50_0 (And.intro T.f50_1 T.f70_1)) (And.intro T.k33 (And.intro T.k76 T.k75)))))) Tryd.ntmps39)

variable {Γ : Nat → List AV}

/-- What is read: the sender's number and what is sealed. -/
def hFail (a : Nat) (st : EyeSt) : EyeSt := if pubOk a then st else (st.1, if st.2 = 0 then 30 else st.2)
def hRaw (most : Int) (st : EyeSt) : (Nat × List UInt8) × EyeSt :=
  let a := eyeNum 8 st
  let b := eyeText 2 most (hFail a.1 a.2)
  ((a.1, b.1), b.2)
def hRead (most : Int) (st : EyeSt) : (Nat × List UInt8) × EyeSt :=
  let q := hRaw most st
  (if q.2.2 = 0 then q.1 else (0, []), q.2)
theorem hFail_len (a : Nat) (st : EyeSt) : (hFail a st).1 = st.1 := by unfold hFail; split <;> rfl
theorem some_neH {s : AS} {p o : Nat} {cs : List AV} (h : s.objs p = some cs) (k : s.objs o = none) : p ≠ o := by
  rintro rfl
  rw [h] at k
  cases k
theorem ne_of_int {x y : Int} (h : x ≠ y) : (x == y) = false := by simpa using h

set_option maxRecDepth 100000 in
set_option maxHeartbeats 4000000 in
theorem hRead_calls (s : AS) (p : Nat) (st : EyeSt) (most : Int) (hl : st.1.length ≤ 2 ^ 44) (h : s.objs p = some (eyeC st)) :
    ACalls Tryd.prog Γ 38 [.ptr p 0, .v (.int .i64 most)] s (fun r s' => r = .agg [.v (.int .u64 (hRead most st).1.1), bytesV (hRead most st).1.2 .any] ∧ s' = s.set p (eyeC (hRead most st).2)) := by
  refine acalls_body Tryd.func38 rfl Tryd.ntmps38 Tryd.results38 (by simp) ?_
  obtain ⟨q1, e1⟩ : ∃ q, q = eyeNum 8 st := ⟨_, rfl⟩
  obtain ⟨q2, e2⟩ : ∃ q, q = hFail q1.1 q1.2 := ⟨_, rfl⟩
  obtain ⟨q3, e3⟩ : ∃ q, q = eyeText 2 most q2 := ⟨_, rfl⟩
  have l1 : q1.2.1.length ≤ 2 ^ 44 := by rw [e1]; exact Nat.le_trans (eyeNum_len _ _) hl
  have l2 : q2.1.length ≤ 2 ^ 44 := by rw [e2, hFail_len]; exact l1
  have hrr : hRead most st = (if q3.2.2 = 0 then (q1.1, q3.1) else (0, []), q3.2) := by subst e3 e2 e1; rfl
  refine awp_reg_seq ?_
  intro K hK
  simp only [↓DN, UP, DF, qSh, qCv, qIA, qIx, qSl, qBu, qCe, qOn, reduceCtorEq, ↓reduceIte, nLT, nLE, nEQ, nAdd, nMul, nPow, nSub, zLT, zLE, zNat, RHpk738]
  intro o2 ho2
  have hp2 := some_neH h ho2
  refine hK _ _ ?_
  clear hK K
  refine awp_seq_k ?_
  intro K1 hK1
  obtain ⟨z, hz⟩ : ∃ z : List AV, z = [.v (.int .u64 0), .v (.slice none 0 0)] := ⟨_, rfl⟩
  have h1 : ∀ (E : Env) (s1 : AS) (o3 : Nat), E 0 = .ptr p 0 → E 1 = .v (.int .i64 most) → E 4 = .ptr o2 0 → E 5 = .ptr o3 0 → RdS s s1 p o2 o3 (eyeC q1.2) z [.v (.int .u64 q1.1), .v (.slice none 0 0)] → K1 E s1 := by
    intro E s1 o3 g0 gm g2 g3 J
    refine hK1 _ _ ?_
    clear hK1 K1
    refine awp_seq_k ?_
    intro K2 hK2
    have h2 : ∀ (E : Env) (s1 : AS), E 0 = .ptr p 0 → E 1 = .v (.int .i64 most) → E 4 = .ptr o2 0 → E 5 = .ptr o3 0 → RdS s s1 p o2 o3 (eyeC q2) z [.v (.int .u64 q1.1), .v (.slice none 0 0)] → K2 E s1 := by
      clear J g0 gm g2 g3 E s1
      intro E s1 g0 gm g2 g3 J
      refine hK2 _ _ ?_
      clear hK2 K2
      have jv := J.var
      have jp := J.p3
      have jp2 := J.p3.symm
      refine awp_reg_seq ?_
      intro K hK
      simp only [↓DN, UP, DF, qSh, qCv, qIA, qIx, qSl, qBu, qCe, qOn, reduceCtorEq, ↓reduceIte, nLT, nLE, nEQ, nAdd, nMul, nPow, nSub, zLT, zLE, zNat, RHpk738, g0, gm]
      refine acallk (eyeLong_set _ p _ most (by omega) J.eye) ?_
      rintro r s2 ⟨rfl, rfl⟩
      rw [← e3]
      have J3 := (J.setEye (eyeC q3.2)).setVar [.v (.int .u64 q1.1), .sl 1 q3.1.length (q3.1.map byteV) .any]
      simp only [↓AXq_nil, ↓AXq_cons, pval, DX, Nat.reduceBEq, ↓DN, UP, DF, qSh, qCv, qIA, qIx, qSl, qBu, qCe, qOn, reduceCtorEq, ↓reduceIte, nLT, nLE, nEQ, nAdd, nMul, nPow, nSub, zLT, zLE, zNat, RHpk738, g3, jv, jp, jp2]
      refine hK _ _ ?_
      clear hK K
      clear J jv
      generalize (s1.set p (eyeC q3.2)).set o3 [.v (.int .u64 q1.1), .sl 1 q3.1.length (q3.1.map byteV) .any] = s2 at *
      have jv := J3.var
      have jr := J3.res
      have jd := J3.d
      have jd2 := J3.d.symm
      rw [hz] at jr
      refine awp_seq_k ?_
      intro K3 hK3
      have hend : ∀ (v : AV) (cs : List AV) (s4 : AS) (E : Env), True := fun _ _ _ _ => trivial
      clear hend
      refine awp_reg_seq ?_
      intro K hK
      simp only [↓DN, UP, DF, qSh, qCv, qIA, qIx, qSl, qBu, qCe, qOn, reduceCtorEq, ↓reduceIte, nLT, nLE, nEQ, nAdd, nMul, nPow, nSub, zLT, zLE, zNat, RHpk738, g0]
      refine acallk (eyeErr_at _ p _ J3.eye) ?_
      rintro r s4 ⟨rfl, rfl⟩
      by_cases he : q3.2.2 = 0
      · rw [he]
        simp only [↓AXq_nil, ↓AXq_cons, pval, DX, Nat.reduceBEq, ↓DN, UP, DF, qSh, qCv, qIA, qIx, qSl, qBu, qCe, qOn, reduceCtorEq, ↓reduceIte, nLT, nLE, nEQ, nAdd, nMul, nPow, nSub, zLT, zLE, zNat, RHpk738, i64_ne_false 0 rfl]
        refine hK _ _ ?_
        clear hK K
        refine awp_cond_k ?_
        intro X Y hX hY
        simp only [↓DN, UP, DF, qSh, qCv, qIA, qIx, qSl, qBu, qCe, qOn, reduceCtorEq, ↓reduceIte, nLT, nLE, nEQ, nAdd, nMul, nPow, nSub, zLT, zLE, zNat, RHpk738, DB]
        refine hY ?_
        clear hX hY X Y
        refine awp_skip ?_
        refine hK3 _ _ ?_
        clear hK3 K3
        refine awp_reg_seq ?_
        intro K hK
        simp only [↓DN, UP, DF, qSh, qCv, qIA, qIx, qSl, qBu, qCe, qOn, reduceCtorEq, ↓reduceIte, nLT, nLE, nEQ, nAdd, nMul, nPow, nSub, zLT, zLE, zNat, RHpk738, g3, g2, jv, jr, jd, jd2]
        refine hK _ _ ?_
        clear hK K
        refine awp_ret ?_
        refine aends_cell (o := o2) (off := 0) (by simp only [upd, g2, nEQ, ↓reduceIte]) (AS.set_objs_same _ _ _) (by rw [T.c46]; decide) (by simp only [↓DN, UP, DF, qSh, qCv, qIA, qIx, qSl, qBu, qCe, qOn, reduceCtorEq, ↓reduceIte, nLT, nLE, nEQ, nAdd, nMul, nPow, nSub, zLT, zLE, zNat, RHpk738]; rfl) ?_
        rw [hrr, if_pos he]
        exact ⟨_, _, AV.weak.refl _, (J3.setRes _).out, rfl, rfl⟩
      · simp only [↓AXq_nil, ↓AXq_cons, pval, DX, Nat.reduceBEq, ↓DN, UP, DF, qSh, qCv, qIA, qIx, qSl, qBu, qCe, qOn, reduceCtorEq, ↓reduceIte, nLT, nLE, nEQ, nAdd, nMul, nPow, nSub, zLT, zLE, zNat, RHpk738, i64_ne_true _ he]
        refine hK _ _ ?_
        clear hK K
        refine awp_cond_k ?_
        intro X Y hX hY
        simp only [↓DN, UP, DF, qSh, qCv, qIA, qIx, qSl, qBu, qCe, qOn, reduceCtorEq, ↓reduceIte, nLT, nLE, nEQ, nAdd, nMul, nPow, nSub, zLT, zLE, zNat, RHpk738, DB]
        refine hX ?_
        clear hX hY X Y
        refine awp_reg_seq ?_
        intro K hK
        simp only [↓DN, UP, DF, qSh, qCv, qIA, qIx, qSl, qBu, qCe, qOn, reduceCtorEq, ↓reduceIte, nLT, nLE, nEQ, nAdd, nMul, nPow, nSub, zLT, zLE, zNat, RHpk738, g3, g2, jv, jr, jd, jd2]
        refine hK _ _ ?_
        clear hK K
        refine awp_ret ?_
        try simp only [thenQ, blockQ]
        refine aends_cell (o := o2) (off := 0) (by simp only [upd, g2, nEQ, ↓reduceIte]) (AS.set_objs_same _ _ _) (by rw [T.c46]; decide) (by simp only [↓DN, UP, DF, qSh, qCv, qIA, qIx, qSl, qBu, qCe, qOn, reduceCtorEq, ↓reduceIte, nLT, nLE, nEQ, nAdd, nMul, nPow, nSub, zLT, zLE, zNat, RHpk738]; rfl) ?_
        rw [hrr, if_neg he]
        exact ⟨_, _, AV.weak_agg (AVs.weak.cons (AV.weak.refl _) (AVs.weak.cons AV.weak_nil AVs.weak.nil)), (J3.setRes _).out, rfl, rfl⟩
    clear hK2
    have jv := J.var
    have jp := J.p3
    have jp2 := J.p3.symm
    refine awp_reg_seq ?_
    intro K hK
    simp only [↓DN, UP, DF, qSh, qCv, qIA, qIx, qSl, qBu, qCe, qOn, reduceCtorEq, ↓reduceIte, nLT, nLE, nEQ, nAdd, nMul, nPow, nSub, zLT, zLE, zNat, RHpk738, g3, jv]
    refine acallk (powerRight_calls q1.1 _) ?_
    rintro r s2 ⟨rfl, rfl⟩
    by_cases hr : pubOk q1.1
    · rw [pub_test hr]
      simp only [↓AXq_nil, ↓AXq_cons, pval, DX, Nat.reduceBEq, ↓DN, UP, DF, qSh, qCv, qIA, qIx, qSl, qBu, qCe, qOn, reduceCtorEq, ↓reduceIte, nLT, nLE, nEQ, nAdd, nMul, nPow, nSub, zLT, zLE, zNat, RHpk738]
      refine hK _ _ ?_
      clear hK K
      refine awp_cond_k ?_
      intro X Y hX hY
      simp only [↓DN, UP, DF, qSh, qCv, qIA, qIx, qSl, qBu, qCe, qOn, reduceCtorEq, ↓reduceIte, nLT, nLE, nEQ, nAdd, nMul, nPow, nSub, zLT, zLE, zNat, RHpk738, DB]
      refine hY ?_
      clear hX hY X Y
      refine awp_skip ?_
      have hq : q2 = q1.2 := by rw [e2]; exact if_pos hr
      rw [hq] at h2
      exact h2 _ _ (by simp only [upd, g0, nEQ, ↓reduceIte]) (by simp only [upd, gm, nEQ, ↓reduceIte]) (by simp only [upd, g2, nEQ, ↓reduceIte]) (by simp only [upd, g3, nEQ, ↓reduceIte]) J
    · rw [pub_testF hr]
      simp only [↓AXq_nil, ↓AXq_cons, pval, DX, Nat.reduceBEq, ↓DN, UP, DF, qSh, qCv, qIA, qIx, qSl, qBu, qCe, qOn, reduceCtorEq, ↓reduceIte, nLT, nLE, nEQ, nAdd, nMul, nPow, nSub, zLT, zLE, zNat, RHpk738]
      refine hK _ _ ?_
      clear hK K
      refine awp_cond_k ?_
      intro X Y hX hY
      simp only [↓DN, UP, DF, qSh, qCv, qIA, qIx, qSl, qBu, qCe, qOn, reduceCtorEq, ↓reduceIte, nLT, nLE, nEQ, nAdd, nMul, nPow, nSub, zLT, zLE, zNat, RHpk738, DB]
      refine hX ?_
      clear hX hY X Y
      refine awp_reg_end ?_
      intro K hK
      simp only [↓DN, UP, DF, qSh, qCv, qIA, qIx, qSl, qBu, qCe, qOn, reduceCtorEq, ↓reduceIte, nLT, nLE, nEQ, nAdd, nMul, nPow, nSub, zLT, zLE, zNat, RHpk738, g0]
      refine acallk (eyeFail_set _ p _ 30 J.eye) ?_
      rintro r s3 ⟨rfl, rfl⟩
      simp only [↓AXq_nil, ↓AXq_cons, pval, DX, Nat.reduceBEq, ↓DN, UP, DF, qSh, qCv, qIA, qIx, qSl, qBu, qCe, qOn, reduceCtorEq, ↓reduceIte, nLT, nLE, nEQ, nAdd, nMul, nPow, nSub, zLT, zLE, zNat, RHpk738]
      refine hK _ _ ?_
      have hq : q2 = (q1.2.1, if q1.2.2 = 0 then 30 else q1.2.2) := by rw [e2]; exact if_neg hr
      rw [hq] at h2
      exact h2 _ _ (by simp only [upd, g0, nEQ, ↓reduceIte]) (by simp only [upd, gm, nEQ, ↓reduceIte]) (by simp only [upd, g2, nEQ, ↓reduceIte]) (by simp only [upd, g3, nEQ, ↓reduceIte]) (J.setEye _)
  clear hK1
  refine awp_reg_end ?_
  intro K hK
  simp only [↓DN, UP, DF, qSh, qCv, qIA, qIx, qSl, qBu, qCe, qOn, reduceCtorEq, ↓reduceIte, nLT, nLE, nEQ, nAdd, nMul, nPow, nSub, zLT, zLE, zNat, RHpk738]
  refine acallk (eyeU64_set _ p st (by rw [AS.set_objs_ne _ hp2]; exact h)) ?_
  rintro r s1 ⟨rfl, rfl⟩
  rw [← e1]
  simp only [↓AXq_nil, ↓AXq_cons, pval, DX, Nat.reduceBEq, ↓DN, UP, DF, qSh, qCv, qIA, qIx, qSl, qBu, qCe, qOn, reduceCtorEq, ↓reduceIte, nLT, nLE, nEQ, nAdd, nMul, nPow, nSub, zLT, zLE, zNat, RHpk738]
  intro o3 ho3
  have hp3 : o3 ≠ p := by
    rintro rfl
    simp at ho3
  have h32 : o3 ≠ o2 := by
    rintro rfl
    simp [hp2.symm] at ho3
  have ho30 : s.objs o3 = none := by simpa [hp3, h32] using ho3
  refine hK _ _ (h1 _ _ o3 (by simp only [upd, initE, nEQ, ↓reduceIte, List.getD_cons_zero]) (by simp only [upd, initE, nEQ, ↓reduceIte, List.getD_cons_zero, List.getD_cons_succ]) (by simp only [upd, nEQ, ↓reduceIte]) (by simp only [upd, nEQ, ↓reduceIte]) ?_)
  refine ⟨AS.le_set (AS.le_set (AS.le_set (AS.drop_le s p) (AS.drop_objs_none ho2) _) (AS.drop_self _ _) _) (AS.drop_objs_none ho30) _, ?_, ?_, AS.set_objs_same _ _ _, ho2, ho30, hp2, hp3.symm, h32.symm⟩
  · rw [AS.set_objs_ne _ hp3.symm, AS.set_objs_same]
  · rw [AS.set_objs_ne _ h32.symm, AS.set_objs_ne _ hp2.symm, AS.set_objs_same, hz]

set_option maxRecDepth 100000 in
set_option maxHeartbeats 4000000 in
theorem refHRead_calls (s : AS) (p : Nat) (st : EyeSt) (most : Int) (hl : st.1.length ≤ 2 ^ 44) (h : s.objs p = some (reyeC st)) :
    ACalls Tryd.prog Γ 39 [.ptr p 0, .v (.int .i64 most)] s (fun r s' => r = .agg [.v (.int .u64 (hRead most st).1.1), .v (.string ⟨(hRead most st).1.2.toArray⟩)] ∧ s' = s.set p (reyeC (hRead most st).2)) := by
  refine acalls_body Tryd.func39 rfl Tryd.ntmps39 Tryd.results39 (by simp) ?_
  obtain ⟨q1, e1⟩ : ∃ q, q = eyeNum 8 st := ⟨_, rfl⟩
  obtain ⟨q2, e2⟩ : ∃ q, q = hFail q1.1 q1.2 := ⟨_, rfl⟩
  obtain ⟨q3, e3⟩ : ∃ q, q = eyeText 2 most q2 := ⟨_, rfl⟩
  have l1 : q1.2.1.length ≤ 2 ^ 44 := by rw [e1]; exact Nat.le_trans (eyeNum_len _ _) hl
  have l2 : q2.1.length ≤ 2 ^ 44 := by rw [e2, hFail_len]; exact l1
  have hrr : hRead most st = (if q3.2.2 = 0 then (q1.1, q3.1) else (0, []), q3.2) := by subst e3 e2 e1; rfl
  refine awp_reg_seq ?_
  intro K hK
  simp only [↓DN, UP, DF, qSh, qCv, qIA, qIx, qSl, qBu, qCe, qOn, reduceCtorEq, ↓reduceIte, nLT, nLE, nEQ, nAdd, nMul, nPow, nSub, zLT, zLE, zNat, RHpk739]
  intro o2 ho2
  have hp2 := some_neH h ho2
  refine hK _ _ ?_
  clear hK K
  refine awp_seq_k ?_
  intro K1 hK1
  obtain ⟨z, hz⟩ : ∃ z : List AV, z = [.v (.int .u64 0), .v (.string ByteArray.empty)] := ⟨_, rfl⟩
  have h1 : ∀ (E : Env) (s1 : AS) (o3 : Nat), E 0 = .ptr p 0 → E 1 = .v (.int .i64 most) → E 4 = .ptr o2 0 → E 5 = .ptr o3 0 → RdS s s1 p o2 o3 (reyeC q1.2) z [.v (.int .u64 q1.1), .v (.string ByteArray.empty)] → K1 E s1 := by
    intro E s1 o3 g0 gm g2 g3 J
    refine hK1 _ _ ?_
    clear hK1 K1
    refine awp_seq_k ?_
    intro K2 hK2
    have h2 : ∀ (E : Env) (s1 : AS), E 0 = .ptr p 0 → E 1 = .v (.int .i64 most) → E 4 = .ptr o2 0 → E 5 = .ptr o3 0 → RdS s s1 p o2 o3 (reyeC q2) z [.v (.int .u64 q1.1), .v (.string ByteArray.empty)] → K2 E s1 := by
      clear J g0 gm g2 g3 E s1
      intro E s1 g0 gm g2 g3 J
      refine hK2 _ _ ?_
      clear hK2 K2
      have jv := J.var
      have jp := J.p3
      have jp2 := J.p3.symm
      refine awp_reg_seq ?_
      intro K hK
      simp only [↓DN, UP, DF, qSh, qCv, qIA, qIx, qSl, qBu, qCe, qOn, reduceCtorEq, ↓reduceIte, nLT, nLE, nEQ, nAdd, nMul, nPow, nSub, zLT, zLE, zNat, RHpk739, g0, gm]
      refine acallk (reyeText_set _ p _ 2 most (by omega) (by omega) J.eye) ?_
      rintro r s2 ⟨rfl, rfl⟩
      rw [← e3]
      have J3 := (J.setEye (reyeC q3.2)).setVar [.v (.int .u64 q1.1), .v (.string ⟨q3.1.toArray⟩)]
      simp only [↓AXq_nil, ↓AXq_cons, pval, DX, Nat.reduceBEq, ↓DN, UP, DF, qSh, qCv, qIA, qIx, qSl, qBu, qCe, qOn, reduceCtorEq, ↓reduceIte, nLT, nLE, nEQ, nAdd, nMul, nPow, nSub, zLT, zLE, zNat, RHpk739, g3, jv, jp, jp2]
      refine hK _ _ ?_
      clear hK K
      clear J jv
      generalize (s1.set p (reyeC q3.2)).set o3 [.v (.int .u64 q1.1), .v (.string ⟨q3.1.toArray⟩)] = s2 at *
      have jv := J3.var
      have jr := J3.res
      have jd := J3.d
      have jd2 := J3.d.symm
      rw [hz] at jr
      refine awp_seq_k ?_
      intro K3 hK3
      have hend : ∀ (v : AV) (cs : List AV) (s4 : AS) (E : Env), True := fun _ _ _ _ => trivial
      clear hend
      have je := J3.eye
      unfold reyeC at je
      by_cases he : q3.2.2 = 0
      · refine awp_reg_seq ?_
        intro K hK
        simp only [↓DN, UP, DF, qSh, qCv, qIA, qIx, qSl, qBu, qCe, qOn, reduceCtorEq, ↓reduceIte, nLT, nLE, nEQ, nAdd, nMul, nPow, nSub, zLT, zLE, zNat, RHpk739, g0, je, he, show (((0 : Int) != 0)) = false from rfl]
        refine hK _ _ ?_
        clear hK K
        refine awp_cond_k ?_
        intro X Y hX hY
        simp only [↓DN, UP, DF, qSh, qCv, qIA, qIx, qSl, qBu, qCe, qOn, reduceCtorEq, ↓reduceIte, nLT, nLE, nEQ, nAdd, nMul, nPow, nSub, zLT, zLE, zNat, RHpk739, DB]
        refine hY ?_
        clear hX hY X Y
        refine awp_skip ?_
        refine hK3 _ _ ?_
        clear hK3 K3
        refine awp_reg_seq ?_
        intro K hK
        simp only [↓DN, UP, DF, qSh, qCv, qIA, qIx, qSl, qBu, qCe, qOn, reduceCtorEq, ↓reduceIte, nLT, nLE, nEQ, nAdd, nMul, nPow, nSub, zLT, zLE, zNat, RHpk739, g3, g2, jv, jr, jd, jd2]
        refine hK _ _ ?_
        clear hK K
        refine awp_ret ?_
        refine aends_cell (o := o2) (off := 0) (by simp only [upd, g2, nEQ, ↓reduceIte]) (AS.set_objs_same _ _ _) (by rw [T.c50]; decide) (by simp only [↓DN, UP, DF, qSh, qCv, qIA, qIx, qSl, qBu, qCe, qOn, reduceCtorEq, ↓reduceIte, nLT, nLE, nEQ, nAdd, nMul, nPow, nSub, zLT, zLE, zNat, RHpk739]; rfl) ?_
        rw [hrr, if_pos he]
        exact ⟨_, _, AV.weak.refl _, (J3.setRes _).out, rfl, rfl⟩
      · refine awp_reg_seq ?_
        intro K hK
        simp only [↓DN, UP, DF, qSh, qCv, qIA, qIx, qSl, qBu, qCe, qOn, reduceCtorEq, ↓reduceIte, nLT, nLE, nEQ, nAdd, nMul, nPow, nSub, zLT, zLE, zNat, RHpk739, g0, je, show (q3.2.2 != 0) = true from by simpa using he]
        refine hK _ _ ?_
        clear hK K
        refine awp_cond_k ?_
        intro X Y hX hY
        simp only [↓DN, UP, DF, qSh, qCv, qIA, qIx, qSl, qBu, qCe, qOn, reduceCtorEq, ↓reduceIte, nLT, nLE, nEQ, nAdd, nMul, nPow, nSub, zLT, zLE, zNat, RHpk739, DB]
        refine hX ?_
        clear hX hY X Y
        refine awp_reg_seq ?_
        intro K hK
        simp only [↓DN, UP, DF, qSh, qCv, qIA, qIx, qSl, qBu, qCe, qOn, reduceCtorEq, ↓reduceIte, nLT, nLE, nEQ, nAdd, nMul, nPow, nSub, zLT, zLE, zNat, RHpk739, g3, g2, jv, jr, jd, jd2]
        refine hK _ _ ?_
        clear hK K
        refine awp_ret ?_
        try simp only [thenQ, blockQ]
        refine aends_cell (o := o2) (off := 0) (by simp only [upd, g2, nEQ, ↓reduceIte]) (AS.set_objs_same _ _ _) (by rw [T.c50]; decide) (by simp only [↓DN, UP, DF, qSh, qCv, qIA, qIx, qSl, qBu, qCe, qOn, reduceCtorEq, ↓reduceIte, nLT, nLE, nEQ, nAdd, nMul, nPow, nSub, zLT, zLE, zNat, RHpk739]; rfl) ?_
        rw [hrr, if_neg he]
        exact ⟨_, _, AV.weak.refl _, (J3.setRes _).out, rfl, rfl⟩
    clear hK2
    have jv := J.var
    have jp := J.p3
    have jp2 := J.p3.symm
    have je := J.eye
    unfold reyeC at je
    by_cases he : q1.2.2 = 0
    · refine awp_reg_seq ?_
      intro K hK
      simp only [↓DN, UP, DF, qSh, qCv, qIA, qIx, qSl, qBu, qCe, qOn, reduceCtorEq, ↓reduceIte, nLT, nLE, nEQ, nAdd, nMul, nPow, nSub, zLT, zLE, zNat, RHpk739, g0, g3, jv, jp, jp2, je, he, show ((0 : Int) == 0) = true from rfl]
      refine acallk (refRight07_calls q1.1 _) ?_
      rintro r s2 ⟨rfl, rfl⟩
      by_cases hr : pubOk q1.1
      · rw [pub_test hr]
        simp only [↓AXq_nil, ↓AXq_cons, pval, DX, Nat.reduceBEq, ↓DN, UP, DF, qSh, qCv, qIA, qIx, qSl, qBu, qCe, qOn, reduceCtorEq, ↓reduceIte, nLT, nLE, nEQ, nAdd, nMul, nPow, nSub, zLT, zLE, zNat, RHpk739]
        refine hK _ _ ?_
        clear hK K
        refine awp_cond_k ?_
        intro X Y hX hY
        simp only [↓DN, UP, DF, qSh, qCv, qIA, qIx, qSl, qBu, qCe, qOn, reduceCtorEq, ↓reduceIte, nLT, nLE, nEQ, nAdd, nMul, nPow, nSub, zLT, zLE, zNat, RHpk739, DB]
        refine hY ?_
        clear hX hY X Y
        refine awp_skip ?_
        have hq : q2 = q1.2 := by rw [e2]; exact if_pos hr
        rw [hq] at h2
        exact h2 _ _ (by simp only [upd, g0, nEQ, ↓reduceIte]) (by simp only [upd, gm, nEQ, ↓reduceIte]) (by simp only [upd, g2, nEQ, ↓reduceIte]) (by simp only [upd, g3, nEQ, ↓reduceIte]) J
      · rw [pub_testF hr]
        simp only [↓AXq_nil, ↓AXq_cons, pval, DX, Nat.reduceBEq, ↓DN, UP, DF, qSh, qCv, qIA, qIx, qSl, qBu, qCe, qOn, reduceCtorEq, ↓reduceIte, nLT, nLE, nEQ, nAdd, nMul, nPow, nSub, zLT, zLE, zNat, RHpk739]
        refine hK _ _ ?_
        clear hK K
        refine awp_cond_k ?_
        intro X Y hX hY
        simp only [↓DN, UP, DF, qSh, qCv, qIA, qIx, qSl, qBu, qCe, qOn, reduceCtorEq, ↓reduceIte, nLT, nLE, nEQ, nAdd, nMul, nPow, nSub, zLT, zLE, zNat, RHpk739, DB]
        refine hX ?_
        clear hX hY X Y
        have hq : q2 = (q1.2.1, 30) := by rw [e2]; exact (if_neg hr).trans (by rw [if_pos he])
        rw [hq] at h2
        refine awp_reg_end ?_
        intro K hK
        simp only [↓DN, UP, DF, qSh, qCv, qIA, qIx, qSl, qBu, qCe, qOn, reduceCtorEq, ↓reduceIte, nLT, nLE, nEQ, nAdd, nMul, nPow, nSub, zLT, zLE, zNat, RHpk739, g0, je]
        refine hK _ _ ?_
        exact h2 _ _ (by simp only [upd, g0, nEQ, ↓reduceIte]) (by simp only [upd, gm, nEQ, ↓reduceIte]) (by simp only [upd, g2, nEQ, ↓reduceIte]) (by simp only [upd, g3, nEQ, ↓reduceIte]) (J.setEye _)
    · refine awp_reg_seq ?_
      intro K hK
      simp only [↓DN, UP, DF, qSh, qCv, qIA, qIx, qSl, qBu, qCe, qOn, reduceCtorEq, ↓reduceIte, nLT, nLE, nEQ, nAdd, nMul, nPow, nSub, zLT, zLE, zNat, RHpk739, g0, g3, jv, jp, jp2, je, ne_of_int he]
      refine hK _ _ ?_
      clear hK K
      refine awp_cond_k ?_
      intro X Y hX hY
      simp only [↓DN, UP, DF, qSh, qCv, qIA, qIx, qSl, qBu, qCe, qOn, reduceCtorEq, ↓reduceIte, nLT, nLE, nEQ, nAdd, nMul, nPow, nSub, zLT, zLE, zNat, RHpk739, DB]
      refine hY ?_
      clear hX hY X Y
      refine awp_skip ?_
      have hq : q2 = q1.2 := by
        rw [e2]
        unfold hFail
        split
        · rfl
        · simp only [if_neg he]
      rw [hq] at h2
      exact h2 _ _ (by simp only [upd, g0, nEQ, ↓reduceIte]) (by simp only [upd, gm, nEQ, ↓reduceIte]) (by simp only [upd, g2, nEQ, ↓reduceIte]) (by simp only [upd, g3, nEQ, ↓reduceIte]) J
  clear hK1
  refine awp_reg_end ?_
  intro K hK
  simp only [↓DN, UP, DF, qSh, qCv, qIA, qIx, qSl, qBu, qCe, qOn, reduceCtorEq, ↓reduceIte, nLT, nLE, nEQ, nAdd, nMul, nPow, nSub, zLT, zLE, zNat, RHpk739]
  refine acallk (reyeNumber_set _ p st 8 (by omega) (by omega) (by rw [AS.set_objs_ne _ hp2]; exact h)) ?_
  rintro r s1 ⟨rfl, rfl⟩
  rw [← e1]
  simp only [↓AXq_nil, ↓AXq_cons, pval, DX, Nat.reduceBEq, ↓DN, UP, DF, qSh, qCv, qIA, qIx, qSl, qBu, qCe, qOn, reduceCtorEq, ↓reduceIte, nLT, nLE, nEQ, nAdd, nMul, nPow, nSub, zLT, zLE, zNat, RHpk739]
  intro o3 ho3
  have hp3 : o3 ≠ p := by
    rintro rfl
    simp at ho3
  have h32 : o3 ≠ o2 := by
    rintro rfl
    simp [hp2.symm] at ho3
  have ho30 : s.objs o3 = none := by simpa [hp3, h32] using ho3
  refine hK _ _ (h1 _ _ o3 (by simp only [upd, initE, nEQ, ↓reduceIte, List.getD_cons_zero]) (by simp only [upd, initE, nEQ, ↓reduceIte, List.getD_cons_zero, List.getD_cons_succ]) (by simp only [upd, nEQ, ↓reduceIte]) (by simp only [upd, nEQ, ↓reduceIte]) ?_)
  refine ⟨AS.le_set (AS.le_set (AS.le_set (AS.drop_le s p) (AS.drop_objs_none ho2) _) (AS.drop_self _ _) _) (AS.drop_objs_none ho30) _, ?_, ?_, AS.set_objs_same _ _ _, ho2, ho30, hp2, hp3.symm, h32.symm⟩
  · rw [AS.set_objs_ne _ hp3.symm, AS.set_objs_same]
  · rw [AS.set_objs_ne _ h32.symm, AS.set_objs_ne _ hp2.symm, AS.set_objs_same, hz]

end Go.Proofs.YtooeklnbdgoneaaDoor


set_option autoImplicit false
namespace Go.Proofs.YtooeklnbdgoneaaDoor
open Go Go.AM Go.Proofs

variable {Γ : Nat → List AV}

theorem sealed08 {avs : List AV} (h : IsTy (.struct (.cons (.int .u64) (.cons tyB .nil))) avs) : ∃ (f : Nat) (t : List UInt8), avs = [.v (.int .u64 f), bytesV t .any] ∧ f < 2 ^ 64 := by
  obtain ⟨x1, y1, rfl, t1, h⟩ := isF_cons (isTy_struct h)
  obtain ⟨x2, y2, rfl, t2, h⟩ := isF_cons h
  obtain rfl := isF_nil h
  obtain ⟨a, rfl, ha⟩ := isTy_int t1
  obtain ⟨n, rfl, hn⟩ := nat_u64 ha
  obtain ⟨l2, rfl, _⟩ := t2.bytes
  exact ⟨n, l2, rfl, hn⟩

end Go.Proofs.YtooeklnbdgoneaaDoor


