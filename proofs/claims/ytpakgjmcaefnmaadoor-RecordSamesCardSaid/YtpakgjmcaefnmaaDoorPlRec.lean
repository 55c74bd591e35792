/- Plain laws of numbers and lists that the walks below need; no condition. -/
import Derived.Test.YtpakgjmcaefnmaaDoorPlWire
import Derived.Test.YtpakgjmcaefnmaaDoorAMp5
set_option linter.unusedSimpArgs false
set_option linter.unusedVariables false
set_option autoImplicit false
namespace Go.AM
open Go

/-! ### Records -/
structure Rec where
  kind : Int
  group : List UInt8
  epoch : Int
  time : Int
  bucket : Int
  body : List UInt8
  tree : List UInt8
  script : List UInt8
  wrapped : List UInt8
  deriving DecidableEq

def Rec.cells (r : Rec) : List AV := [.v (.int .i64 r.kind), bytesV r.group .any, .v (.int .i64 r.epoch), .v (.int .i64 r.time), .v (.int .i64 r.bucket), bytesV r.body .any, bytesV r.tree .any, bytesV r.script .any, bytesV r.wrapped .any]
def Rec.nought : Rec := ⟨0, [], 0, 0, 0, [], [], [], []⟩

def Rec.right (r : Rec) : Prop :=
  1 ≤ r.kind ∧ r.kind ≤ 3 ∧ 1 ≤ r.group.length ∧ r.group.length ≤ 16 ∧ 0 ≤ r.epoch ∧ r.epoch ≤ 1048576 ∧ 0 ≤ r.time ∧ r.time ≤ 1099511627776 ∧ 0 ≤ r.bucket ∧ r.bucket ≤ 1099511627776 ∧ r.body.length ≤ 60000 ∧
    r.tree.length = (if r.kind = 3 then 0 else 32) ∧ r.script.length = (if r.kind = 3 then 0 else 32) ∧ r.wrapped.length = (if r.kind = 3 then 0 else 48)
instance (r : Rec) : Decidable r.right := by unfold Rec.right; infer_instance

theorem right_bool (R : Rec) (hh ww : Int) (h : (R.kind = 3 ∧ hh = 0 ∧ ww = 0) ∨ (R.kind ≠ 3 ∧ hh = 32 ∧ ww = 48)) :
    decide R.right = (decide (1 ≤ R.kind) && (decide (R.kind ≤ 3) && (decide (1 ≤ (R.group.length : Int)) && (decide ((R.group.length : Int) ≤ 16) && ((decide (0 ≤ R.epoch) && decide (R.epoch ≤ 1048576)) && ((decide (0 ≤ R.time) && decide (R.time ≤ 1099511627776)) &&
      ((decide (0 ≤ R.bucket) && decide (R.bucket ≤ 1099511627776)) && (decide ((R.body.length : Int) ≤ 60000) && (((R.tree.length : Int) == hh) && (((R.script.length : Int) == hh) && ((R.wrapped.length : Int) == ww))))))))))) := by
  have key : R.right ↔ (1 ≤ R.kind ∧ (R.kind ≤ 3 ∧ (1 ≤ (R.group.length : Int) ∧ ((R.group.length : Int) ≤ 16 ∧ ((0 ≤ R.epoch ∧ R.epoch ≤ 1048576) ∧ ((0 ≤ R.time ∧ R.time ≤ 1099511627776) ∧
      ((0 ≤ R.bucket ∧ R.bucket ≤ 1099511627776) ∧ ((R.body.length : Int) ≤ 60000 ∧ ((R.tree.length : Int) = hh ∧ ((R.script.length : Int) = hh ∧ (R.wrapped.length : Int) = ww)))))))))) := by
    unfold Rec.right
    rcases h with ⟨hk, rfl, rfl⟩ | ⟨hk, rfl, rfl⟩
    · simp only [if_pos hk]
      constructor
      · rintro ⟨h1, h2, h3, h4, h5, h6, h7, h8, h9, h10, h11, h12, h13, h14⟩
        exact ⟨h1, h2, by omega, by omega, ⟨h5, h6⟩, ⟨h7, h8⟩, ⟨h9, h10⟩, by omega, by omega, by omega, by omega⟩
      · rintro ⟨h1, h2, h3, h4, ⟨h5, h6⟩, ⟨h7, h8⟩, ⟨h9, h10⟩, h11, h12, h13, h14⟩
        exact ⟨h1, h2, by omega, by omega, h5, h6, h7, h8, h9, h10, by omega, by omega, by omega, by omega⟩
    · simp only [if_neg hk]
      constructor
      · rintro ⟨h1, h2, h3, h4, h5, h6, h7, h8, h9, h10, h11, h12, h13, h14⟩
        exact ⟨h1, h2, by omega, by omega, ⟨h5, h6⟩, ⟨h7, h8⟩, ⟨h9, h10⟩, by omega, by omega, by omega, by omega⟩
      · rintro ⟨h1, h2, h3, h4, ⟨h5, h6⟩, ⟨h7, h8⟩, ⟨h9, h10⟩, h11, h12, h13, h14⟩
        exact ⟨h1, h2, by omega, by omega, h5, h6, h7, h8, h9, h10, by omega, by omega, by omega, by omega⟩
  rw [Bool.eq_iff_iff, decide_eq_true_iff, key]
  simp only [Bool.and_eq_true, decide_eq_true_eq, beq_iff_eq]
theorem Rec.right.facts {R : Rec} (h : R.right) : 1 ≤ R.kind ∧ R.kind ≤ 3 ∧ 1 ≤ R.group.length ∧ R.group.length ≤ 16 ∧ 0 ≤ R.epoch ∧ R.epoch ≤ 1048576 ∧ 0 ≤ R.time ∧ R.time ≤ 1099511627776 ∧ 0 ≤ R.bucket ∧ R.bucket ≤ 1099511627776 ∧ R.body.length ≤ 60000 ∧
    R.tree.length ≤ 32 ∧ R.script.length ≤ 32 ∧ R.wrapped.length ≤ 48 := by
  obtain ⟨h1, h2, h3, h4, h5, h6, h7, h8, h9, h10, h11, h12, h13, h14⟩ := h
  have w1 : R.tree.length ≤ 32 := by rw [h12]; split <;> omega
  have w2 : R.script.length ≤ 32 := by rw [h13]; split <;> omega
  have w3 : R.wrapped.length ≤ 48 := by rw [h14]; split <;> omega
  exact ⟨h1, h2, h3, h4, h5, h6, h7, h8, h9, h10, h11, w1, w2, w3⟩

theorem rec_eq_bool (k k' e e' t t' u u' : Int) (g g' y y' tr tr' sc sc' wr wr' : List UInt8) :
    decide ((⟨k, g, e, t, u, y, tr, sc, wr⟩ : Rec) = ⟨k', g', e', t', u', y', tr', sc', wr'⟩) = ((k == k') && ((e == e') && ((t == t') && ((u == u') && ((g == g') && ((y == y') && ((tr == tr') && ((sc == sc') && (wr == wr'))))))))) := by
  rw [Bool.eq_iff_iff, decide_eq_true_iff]
  simp only [Rec.mk.injEq, Bool.and_eq_true, beq_iff_eq]
  constructor
  · rintro ⟨h1, h2, h3, h4, h5, h6, h7, h8, h9⟩
    exact ⟨h1, h3, h4, h5, h2, h6, h7, h8, h9⟩
  · rintro ⟨h1, h3, h4, h5, h2, h6, h7, h8, h9⟩
    exact ⟨h1, h2, h3, h4, h5, h6, h7, h8, h9⟩

def Rec.text (r : Rec) : List UInt8 :=
  be 1 r.kind.toNat ++ (be 1 r.group.length ++ r.group ++ (be 8 r.epoch.toNat ++ (be 8 r.time.toNat ++ (be 8 r.bucket.toNat ++
    (be 2 r.body.length ++ r.body ++ (be 1 r.tree.length ++ r.tree ++ (be 1 r.script.length ++ r.script ++ (be 1 r.wrapped.length ++ r.wrapped ++ []))))))))

def readRec (b : List UInt8) : Rec × EyeSt :=
  let k := eyeNum 1 (b, 0)
  let g := eyeText 1 16 k.2
  let e := eyeNum 8 g.2
  let t := eyeNum 8 e.2
  let u := eyeNum 8 t.2
  let y := eyeText 2 60000 u.2
  let r := eyeText 1 32 y.2
  let c := eyeText 1 32 r.2
  let w := eyeText 1 48 c.2
  (⟨k.1, g.1, iconv .i64 (e.1 : Int), iconv .i64 (t.1 : Int), iconv .i64 (u.1 : Int), y.1, r.1, c.1, w.1⟩, w.2)

def recRead (b : List UInt8) : Rec × Int :=
  if eyeEnd (readRec b).2 = 0 then (if (readRec b).1.right then ((readRec b).1, 0) else (Rec.nought, 12)) else (Rec.nought, eyeEnd (readRec b).2)

theorem i64_back (x : Int) (h : 0 ≤ x) (k : x < 2 ^ 62) : iconv .i64 ((x.toNat : Nat) : Int) = x := by
  rw [i64_conv (by omega)]; omega

/-- What was written is read back. -/
theorem readRec_text (r : Rec) (h : r.right) : readRec r.text = (r, [], 0) := by
  obtain ⟨h1, h2, h3, h4, h5, h6, h7, h8, h9, h10, h11, h12, h13, h14⟩ := h
  have w1 : r.tree.length ≤ 32 := by rw [h12]; split <;> omega
  have w2 : r.script.length ≤ 32 := by rw [h13]; split <;> omega
  have w3 : r.wrapped.length ≤ 48 := by rw [h14]; split <;> omega
  have p8 : (256 : Nat) ^ 8 = 18446744073709551616 := by decide
  unfold readRec Rec.text
  simp only
  rw [eyeNum_be (by omega), eyeText_be (by omega) (by omega), eyeNum_be (by omega), eyeNum_be (by omega), eyeNum_be (by omega), eyeText_be (by omega) (by omega), eyeText_be (by omega) (by omega), eyeText_be (by omega) (by omega), eyeText_be (by omega) (by omega)]
  rw [i64_back _ h5 (by omega), i64_back _ h7 (by omega), i64_back _ h9 (by omega)]
  rw [Int.toNat_of_nonneg (by omega)]

theorem recRead_text (r : Rec) (h : r.right) : recRead r.text = (r, 0) := by
  unfold recRead
  rw [readRec_text r h]
  rw [if_pos (show eyeEnd (([] : List UInt8), (0 : Int)) = 0 from by decide)]
  exact if_pos h

/-! What was read is written back. -/
end Go.AM


