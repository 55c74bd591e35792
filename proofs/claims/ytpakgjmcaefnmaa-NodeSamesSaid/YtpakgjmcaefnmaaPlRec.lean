/- Plain laws of numbers and lists that the walks below need; no condition. -/
import Derived.Test.YtpakgjmcaefnmaaPlWire
import Derived.Test.YtpakgjmcaefnmaaAMp5
set_option linter.unusedSimpArgs false
set_option linter.unusedVariables false
set_option autoImplicit false
namespace Go.AM
open Go

/-! ### Records -/
structure Rec where
  kind : Int
  group : List UInt8
  epoch : Int
  time : Int
  bucket : Int
  body : List UInt8
  tree : List UInt8
  script : List UInt8
  wrapped : List UInt8
  deriving DecidableEq

def Rec.cells (r : Rec) : List AV := [.v (.int .i64 r.kind), bytesV r.group .any, .v (.int .i64 r.epoch), .v (.int .i64 r.time), .v (.int .i64 r.bucket), bytesV r.body .any, bytesV r.tree .any, bytesV r.script .any, bytesV r.wrapped .any]
def Rec.nought : Rec := ⟨0, [], 0, 0, 0, [], [], [], []⟩

def Rec.right (r : Rec) : Prop :=
  1 ≤ r.kind ∧ r.kind ≤ 3 ∧ 1 ≤ r.group.length ∧ r.group.length ≤ 16 ∧ 0 ≤ r.epoch ∧ r.epoch ≤ 1048576 ∧ 0 ≤ r.time ∧ r.time ≤ 1099511627776 ∧ 0 ≤ r.bucket ∧ r.bucket ≤ 1099511627776 ∧ r.body.length ≤ 60000 ∧
    r.tree.length = (if r.kind = 3 then 0 else 32) ∧ r.script.length = (if r.kind = 3 then 0 else 32) ∧ r.wrapped.length = (if r.kind = 3 then 0 else 48)
instance (r : Rec) : Decidable r.right := by unfold Rec.right; infer_instance

theorem right_bool (R : Rec) (hh ww : Int) (h : (R.kind = 3 ∧ hh = 0 ∧ ww = 0) ∨ (R.kind ≠ 3 ∧ hh = 32 ∧ ww = 48)) :
    decide R.right = (decide (1 ≤ R.kind) && (decide (R.kind ≤ 3) && (decide (1 ≤ (R.group.length : Int)) && (decide ((R.group.length : Int) ≤ 16) && ((decide (0 ≤ R.epoch) && decide (R.epoch ≤ 1048576)) && ((decide (0 ≤ R.time) && decide (R.time ≤ 1099511627776)) &&
      ((decide (0 ≤ R.bucket) && decide (R.bucket ≤ 1099511627776)) && (decide ((R.body.length : Int) ≤ 60000) && (((R.tree.length : Int) == hh) && (((R.script.length : Int) == hh) && ((R.wrapped.length : Int) == ww))))))))))) := by
  have key : R.right ↔ (1 ≤ R.kind ∧ (R.kind ≤ 3 ∧ (1 ≤ (R.group.length : Int) ∧ ((R.group.length : Int) ≤ 16 ∧ ((0 ≤ R.epoch ∧ R.epoch ≤ 1048576) ∧ ((0 ≤ R.time ∧ R.time ≤ 1099511627776) ∧
      ((0 ≤ R.bucket ∧ R.bucket ≤ 1099511627776) ∧ ((R.body.length : Int) ≤ 60000 ∧ ((R.tree.length : Int) = hh ∧ ((R.script.length : Int) = hh ∧ (R.wrapped.length : Int) = ww)))))))))) := by
    unfold Rec.right
    rcases h with ⟨hk, rfl, rfl⟩ | ⟨hk, rfl, rfl⟩
    · simp only [if_pos hk]
      constructor
      · rintro ⟨h1, h2, h3, h4, h5, h6, h7, h8, h9, h10, h11, h12, h13, h14⟩
        exact ⟨h1, h2, by omega, by omega, ⟨h5, h6⟩, ⟨h7, h8⟩, ⟨h9, h10⟩, by omega, by omega, by omega, by omega⟩
      · rintro ⟨h1, h2, h3, h4, ⟨h5, h6⟩, ⟨h7, h8⟩, ⟨h9, h10⟩, h11, h12, h13, h14⟩
        exact ⟨h1, h2, by omega, by omega, h5, h6, h7, h8, h9, h10, by omega, by omega, by omega, by omega⟩
    · simp only [if_neg hk]
      constructor
      · rintro ⟨h1, h2, h3, h4, h5, h6, h7, h8, h9, h10, h11, h12, h13, h14⟩
        exact ⟨h1, h2, by omega, by omega, ⟨h5, h6⟩, ⟨h7, h8⟩, ⟨h9, h10⟩, by omega, by omega, by omega, by omega⟩
      · rintro ⟨h1, h2, h3, h4, ⟨h5, h6⟩, ⟨h7, h8⟩, ⟨h9, h10⟩, h11, h12, h13, h14⟩
        exact ⟨h1, h2, by omega, by omega, h5, h6, h7, h8, h9, h10, by omega, by omega, by omega, by omega⟩
  rw [Bool.eq_iff_iff, decide_eq_true_iff, key]
  simp only [Bool.and_eq_true, decide_eq_true_eq, beq_iff_eq]
theorem Rec.right.facts {R : Rec} (h : R.right) : 1 ≤ R.kind ∧ R.kind ≤ 3 ∧ 1 ≤ R.group.length ∧ R.group.length ≤ 16 ∧ 0 ≤ R.epoch ∧ R.epoch ≤ 1048576 ∧ 0 ≤ R.time ∧ R.time ≤ 1099511627776 ∧ 0 ≤ R.bucket ∧ R.bucket ≤ 1099511627776 ∧ R.body.length ≤ 60000 ∧
    R.tree.length ≤ 32 ∧ R.script.length ≤ 32 ∧ R.wrapped.length ≤ 48 := by
  obtain ⟨h1, h2, h3, h4, h5, h6, h7, h8, h9, h10, h11, h12, h13, h14⟩ := h
  have w1 : R.tree.length ≤ 32 := by rw [h12]; split <;> omega
  have w2 : R.script.length ≤ 32 := by rw [h13]; split <;> omega
  have w3 : R.wrapped.length ≤ 48 := by rw [h14]; split <;> omega
  exact ⟨h1, h2, h3, h4, h5, h6, h7, h8, h9, h10, h11, w1, w2, w3⟩

theorem rec_eq_bool (k k' e e' t t' u u' : Int) (g g' y y' tr tr' sc sc' wr wr' : List UInt8) :
    decide ((⟨k, g, e, t, u, y, tr, sc, wr⟩ : Rec) = ⟨k', g', e', t', u', y', tr', sc', wr'⟩) = ((k == k') && ((e == e') && ((t == t') && ((u == u') && ((g == g') && ((y == y') && ((tr == tr') && ((sc == sc') && (wr == wr'))))))))) := by
  rw [Bool.eq_iff_iff, decide_eq_true_iff]
  simp only [Rec.mk.injEq, Bool.and_eq_true, beq_iff_eq]
  constructor
  · rintro ⟨h1, h2, h3, h4, h5, h6, h7, h8, h9⟩
    exact ⟨h1, h3, h4, h5, h2, h6, h7, h8, h9⟩
  · rintro ⟨h1, h3, h4, h5, h2, h6, h7, h8, h9⟩
    exact ⟨h1, h2, h3, h4, h5, h6, h7, h8, h9⟩

def Rec.text (r : Rec) : List UInt8 :=
  be 1 r.kind.toNat ++ (be 1 r.group.length ++ r.group ++ (be 8 r.epoch.toNat ++ (be 8 r.time.toNat ++ (be 8 r.bucket.toNat ++
    (be 2 r.body.length ++ r.body ++ (be 1 r.tree.length ++ r.tree ++ (be 1 r.script.length ++ r.script ++ (be 1 r.wrapped.length ++ r.wrapped ++ []))))))))

def readRec (b : List UInt8) : Rec × EyeSt :=
  let k := eyeNum 1 (b, 0)
  let g := eyeText 1 16 k.2
  let e := eyeNum 8 g.2
  let t := eyeNum 8 e.2
  let u := eyeNum 8 t.2
  let y := eyeText 2 60000 u.2
  let r := eyeText 1 32 y.2
  let c := eyeText 1 32 r.2
  let w := eyeText 1 48 c.2
  (⟨k.1, g.1, iconv .i64 (e.1 : Int), iconv .i64 (t.1 : Int), iconv .i64 (u.1 : Int), y.1, r.1, c.1, w.1⟩, w.2)

def recRead (b : List UInt8) : Rec × Int :=
  if eyeEnd (readRec b).2 = 0 then (if (readRec b).1.right then ((readRec b).1, 0) else (Rec.nought, 12)) else (Rec.nought, eyeEnd (readRec b).2)

theorem i64_back (x : Int) (h : 0 ≤ x) (k : x < 2 ^ 62) : iconv .i64 ((x.toNat : Nat) : Int) = x := by
  rw [i64_conv (by omega)]; omega

/-- What was written is read back. -/
theorem readRec_text (r : Rec) (h : r.right) : readRec r.text = (r, [], 0) := by
  obtain ⟨h1, h2, h3, h4, h5, h6, h7, h8, h9, h10, h11, h12, h13, h14⟩ := h
  have w1 : r.tree.length ≤ 32 := by rw [h12]; split <;> omega
  have w2 : r.script.length ≤ 32 := by rw [h13]; split <;> omega
  have w3 : r.wrapped.length ≤ 48 := by rw [h14]; split <;> omega
  have p8 : (256 : Nat) ^ 8 = 18446744073709551616 := by decide
  unfold readRec Rec.text
  simp only
  rw [eyeNum_be (by omega), eyeText_be (by omega) (by omega), eyeNum_be (by omega), eyeNum_be (by omega), eyeNum_be (by omega), eyeText_be (by omega) (by omega), eyeText_be (by omega) (by omega), eyeText_be (by omega) (by omega), eyeText_be (by omega) (by omega)]
  rw [i64_back _ h5 (by omega), i64_back _ h7 (by omega), i64_back _ h9 (by omega)]
  rw [Int.toNat_of_nonneg (by omega)]

theorem recRead_text (r : Rec) (h : r.right) : recRead r.text = (r, 0) := by
  unfold recRead
  rw [readRec_text r h]
  rw [if_pos (show eyeEnd (([] : List UInt8), (0 : Int)) = 0 from by decide)]
  exact if_pos h

/-! What was read is written back. -/
theorem be_beNat {k : Nat} : ∀ {l : List UInt8}, l.length = k → be k (beNat l) = l := by
  intro l h
  induction k generalizing l with
  | zero => rw [List.eq_nil_of_length_eq_zero h]; rfl
  | succ k ih =>
    cases l with
    | nil => simp at h
    | cons c l =>
      have hl : l.length = k := by simpa using h
      have hb := beNat_lt l
      rw [hl] at hb
      have hc := c.toNat_lt
      have key : ∀ (l : List UInt8) (a : Nat), l.foldl (fun n c => n * 256 + c.toNat) a = a * 256 ^ l.length + beNat l := by
        intro l
        induction l with
        | nil => intro a; simp [beNat]
        | cons d l ih2 =>
          intro a
          have e0 : beNat (d :: l) = d.toNat * 256 ^ l.length + beNat l := by
            have := ih2 (0 * 256 + d.toNat)
            rw [Nat.zero_mul, Nat.zero_add] at this
            rw [← this, beNat, List.foldl_cons, Nat.zero_mul, Nat.zero_add]
          rw [List.foldl_cons, ih2, e0, List.length_cons, Nat.add_mul, Nat.pow_succ, Nat.mul_assoc, Nat.mul_comm 256, Nat.add_assoc]
      have e : beNat (c :: l) = c.toNat * 256 ^ k + beNat l := by
        have := key l (0 * 256 + c.toNat)
        rw [hl, Nat.zero_mul, Nat.zero_add] at this
        rw [← this, beNat, List.foldl_cons, Nat.zero_mul, Nat.zero_add]
      have hp : 0 < 256 ^ k := Nat.pow_pos (by decide)
      have e2 : 2 ^ (8 * k) = 256 ^ k := by rw [Nat.pow_mul]
      have step : ∀ (k n m q : Nat), m < 256 ^ k → be k (q * 256 ^ k + m) = be k m := by
        intro k
        induction k with
        | zero => intros; rfl
        | succ k ih3 =>
          intro n m q hm
          have hp : 0 < 256 ^ k := Nat.pow_pos (by decide)
          have e2 : 2 ^ (8 * k) = 256 ^ k := by rw [Nat.pow_mul]
          simp only [be, e2]
          have e3 : q * 256 ^ (k + 1) + m = (q * 256 + m / 256 ^ k) * 256 ^ k + m % 256 ^ k := by
            rw [Nat.add_mul, Nat.pow_succ, Nat.mul_assoc, Nat.mul_comm 256, Nat.add_assoc, Nat.mul_comm (m / 256 ^ k), Nat.div_add_mod]
          have e4 : m = (m / 256 ^ k) * 256 ^ k + m % 256 ^ k := by rw [Nat.mul_comm, Nat.div_add_mod]
          rw [e3, ih3 0 _ _ (Nat.mod_lt _ hp)]
          congr 1
          · rw [← e3, Nat.pow_succ, ← Nat.mul_assoc, Nat.mul_right_comm, Nat.add_comm, Nat.add_mul_div_right _ _ hp]
            apply UInt8.toNat_inj.1
            simp
          · conv => rhs; rw [e4]
            rw [ih3 0 _ _ (Nat.mod_lt _ hp)]
      simp only [be, e, e2]
      rw [step k 0 _ _ hb, ih hl, Nat.add_comm, Nat.add_mul_div_right _ _ hp, Nat.div_eq_of_lt hb, Nat.zero_add]
      congr 1
      simp

theorem eyeNum_zero {k : Nat} {st : EyeSt} (h : (eyeNum k st).2.2 = 0) : st.2 = 0 ∧ (eyeNum k st).1 < 256 ^ k ∧ st.1 = be k (eyeNum k st).1 ++ (eyeNum k st).2.1 := by
  obtain ⟨l, e⟩ := st
  by_cases h0 : e = 0
  · subst h0
    by_cases h1 : l.length < k
    · rw [eyeNum_short h1] at h; simp at h
    · rw [eyeNum_ok (by omega)]
      refine ⟨rfl, ?_, ?_⟩
      · exact beNat_take_lt l k
      · simp only
        rw [be_beNat (by rw [List.length_take]; omega), List.take_append_drop]
  · rw [eyeNum_err h0] at h; exact absurd h h0
theorem eyeText_zero {k : Nat} {most : Int} {st : EyeSt} (h : (eyeText k most st).2.2 = 0) : st.2 = 0 ∧ st.1 = be k (eyeText k most st).1.length ++ (eyeText k most st).1 ++ (eyeText k most st).2.1 := by
  obtain ⟨l, e⟩ := st
  by_cases h0 : e = 0
  · subst h0
    by_cases h1 : l.length < k
    · rw [eyeText_short h1] at h; simp at h
    · by_cases h2 : most < (beNat (l.take k) : Int)
      · rw [eyeText_long (by omega) h2] at h; simp at h
      · by_cases h3 : l.length - k < beNat (l.take k)
        · rw [eyeText_less (by omega) h2 h3] at h; simp at h
        · rw [eyeText_ok (by omega) h2 h3]
          refine ⟨rfl, ?_⟩
          have hl : ((l.take (k + beNat (l.take k))).drop k).length = beNat (l.take k) := by rw [List.length_drop, List.length_take]; omega
          simp only
          rw [hl, be_beNat (by rw [List.length_take]; omega), List.drop_take, Nat.add_sub_cancel_left, ← List.drop_drop, List.append_assoc, List.take_append_drop, List.take_append_drop]
  · rw [eyeText_err h0] at h; exact absurd h h0

theorem eyeEnd_zero {st : EyeSt} (h : eyeEnd st = 0) : st.2 = 0 ∧ st.1 = [] := by
  unfold eyeEnd at h
  split at h
  · simp at h
  · rename_i h1
    refine ⟨h, List.eq_nil_of_length_eq_zero ?_⟩
    have := fun h2 => h1 ⟨h, h2⟩
    omega

theorem i64_pos {n : Nat} (h : n < 2 ^ 64) (k : 0 ≤ iconv .i64 (n : Int)) : (iconv .i64 (n : Int)).toNat = n := by
  have e : iconv .i64 (n : Int) = if (n : Int) < 2 ^ 63 then (n : Int) else n - 2 ^ 64 := by
    have hm : (n : Int) % 2 ^ 64 = n := Int.emod_eq_of_lt (by omega) (by omega)
    simp only [iconv, IntKind.wrap, IntKind.signed, IntKind.bits, hm, Bool.true_and, decide_eq_true_eq]
    by_cases h1 : (n : Int) < 2 ^ 63
    · rw [if_pos h1, if_neg (by omega)]
    · rw [if_neg h1, if_pos (by omega)]
  rw [e] at k ⊢
  split at k <;> rename_i h1
  · rw [if_pos h1]; omega
  · omega

theorem readRec_back (b : List UInt8) (h : eyeEnd (readRec b).2 = 0) (hr : (readRec b).1.right) : (readRec b).1.text = b := by
  obtain ⟨q1, q2⟩ := eyeEnd_zero h
  unfold readRec at q1 q2 hr ⊢
  simp only at q1 q2 hr ⊢
  obtain ⟨h1, h2, h3, h4, h5, h6, h7, h8, h9, h10, h11, h12, h13, h14⟩ := hr
  simp only at h5 h7 h9
  obtain ⟨q3, e9⟩ := eyeText_zero q1
  obtain ⟨q4, e8⟩ := eyeText_zero q3
  obtain ⟨q5, e7⟩ := eyeText_zero q4
  obtain ⟨q6, e6⟩ := eyeText_zero q5
  obtain ⟨q7, b5, e5⟩ := eyeNum_zero q6
  obtain ⟨q8, b4, e4⟩ := eyeNum_zero q7
  obtain ⟨q9, b3, e3⟩ := eyeNum_zero q8
  obtain ⟨q10, e2⟩ := eyeText_zero q9
  obtain ⟨q11, b1, e1⟩ := eyeNum_zero q10
  simp only [Rec.text, Int.toNat_natCast]
  have p8 : (256 : Nat) ^ 8 = 2 ^ 64 := by decide
  rw [i64_pos (by omega) h5, i64_pos (by omega) h7, i64_pos (by omega) h9]
  rw [← q2, ← e9, ← e8, ← e7, ← e6, ← e5, ← e4, ← e3, ← e2, ← e1]

theorem recRead_back (b : List UInt8) (h : (recRead b).2 = 0) : (recRead b).1.right ∧ (recRead b).1.text = b := by
  unfold recRead at h ⊢
  split at h
  · rename_i h1
    split at h
    · rename_i h2
      rw [if_pos h1, if_pos h2]
      exact ⟨h2, readRec_back b h1 h2⟩
    · simp at h
  · rename_i h1
    exact absurd h h1

end Go.AM

