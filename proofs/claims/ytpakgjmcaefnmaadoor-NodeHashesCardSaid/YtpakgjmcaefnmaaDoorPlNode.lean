/- Plain laws of numbers and lists that the walks below need; no condition. -/
import Derived.Test.YtpakgjmcaefnmaaDoorAMp4
import Derived.Test.YtpakgjmcaefnmaaDoorAMp5
set_option linter.unusedSimpArgs false
set_option linter.unusedVariables false
set_option autoImplicit false
namespace Go.AM
open Go

/-! ### Slices of whole numbers; nodes -/
def intC (n : Int) : AV := .v (.int .i64 n)
def intsV (l : List Int) (sp : Sp) : AV := .sl 1 l.length (l.map intC) sp
theorem eat_int {l : List Int} {i : Nat} (h : i < l.length) : List.take 1 (List.drop i (l.map intC)) = [.v (.int .i64 l[i])] := by
  rw [List.drop_eq_getElem_cons (by simpa using h)]
  simp [intC]

theorem IsTy.ints {avs : List AV} (h : IsTy (.slice 1 tyI) avs) : ∃ l : List Int, avs = [intsV l .any] := by
  obtain ⟨els, rfl, _, hall⟩ := IsTy.rows h
  have key : ∀ els : List (List AV), (∀ el ∈ els, el.length = 1 ∧ IsTy tyI el) → ∃ l : List Int, l.length = els.length ∧ els.flatten = l.map intC := by
    intro els
    induction els with
    | nil => intro _; exact ⟨[], rfl, rfl⟩
    | cons e els ih =>
      intro h
      obtain ⟨l, h1, h2⟩ := ih (fun el hel => h el (by simp [hel]))
      obtain ⟨_, t⟩ := h e (by simp)
      obtain ⟨n, rfl, _⟩ := isTy_int t
      exact ⟨n :: l, by simp [h1], by simp [h2, intC]⟩
  obtain ⟨l, h1, h2⟩ := key els hall
  exact ⟨l, by rw [← h1, h2]; rfl⟩

theorem take_eq_succ {α : Type} {a b : List α} {i : Nat} (ha : i < a.length) (hb : i < b.length) (h : a.take i = b.take i) (e : a[i] = b[i]) : a.take (i + 1) = b.take (i + 1) := by
  rw [List.take_succ_eq_append_getElem ha, List.take_succ_eq_append_getElem hb, h, e]

structure NodeV where
  kind : Int
  name : List UInt8
  key : Nat
  parent : List UInt8
  unm : List Int
  deriving DecidableEq
def NodeV.cells (n : NodeV) : List AV := [.v (.int .i64 n.kind), bytesV n.name .any, .v (.int .u64 n.key), bytesV n.parent .any, intsV n.unm .any]
def NodeV.nought : NodeV := ⟨0, [], 0, [], []⟩

theorem node_eq_bool (k k' : Int) (m m' p p' : List UInt8) (y y' : Nat) (u u' : List Int) :
    decide ((⟨k, m, y, p, u⟩ : NodeV) = ⟨k', m', y', p', u'⟩) = ((k == k') && (((y : Int) == (y' : Int)) && (decide (m = m') && (decide (p = p') && decide (u = u'))))) := by
  rw [Bool.eq_iff_iff, decide_eq_true_iff]
  simp only [NodeV.mk.injEq, Bool.and_eq_true, beq_iff_eq, decide_eq_true_eq, Int.natCast_inj]
  constructor
  · rintro ⟨h1, h2, h3, h4, h5⟩
    exact ⟨h1, h3, h2, h4, h5⟩
  · rintro ⟨h1, h3, h2, h4, h5⟩
    exact ⟨h1, h2, h3, h4, h5⟩

theorem IsTy.node {avs : List AV} (h : IsTy (.struct (.cons tyI (.cons tyB (.cons (.int .u64) (.cons tyB (.cons (.slice 1 tyI) .nil)))))) avs) : ∃ N : NodeV, avs = N.cells ∧ N.key < 2 ^ 64 := by
  obtain ⟨x1, y1, rfl, t1, h⟩ := isF_cons (isTy_struct h)
  obtain ⟨x2, y2, rfl, t2, h⟩ := isF_cons h
  obtain ⟨x3, y3, rfl, t3, h⟩ := isF_cons h
  obtain ⟨x4, y4, rfl, t4, h⟩ := isF_cons h
  obtain ⟨x5, y5, rfl, t5, h⟩ := isF_cons h
  obtain rfl := isF_nil h
  obtain ⟨n1, rfl, _⟩ := isTy_int t1
  obtain ⟨l2, rfl, _⟩ := t2.bytes
  obtain ⟨n3, rfl, w3⟩ := isTy_int t3
  obtain ⟨m3, rfl, h3⟩ := nat_u64 w3
  obtain ⟨l4, rfl, _⟩ := t4.bytes
  obtain ⟨l5, rfl⟩ := t5.ints
  exact ⟨⟨n1, l2, m3, l4, l5⟩, rfl, h3⟩
def okAt (l : List Int) (i : Nat) : Prop := 0 ≤ l.getD i 0 ∧ l.getD i 0 < 32 ∧ (0 < i → l.getD (i - 1) 0 < l.getD i 0)
instance decOkAt (l : List Int) (i : Nat) : Decidable (okAt l i) := by unfold okAt; infer_instance
def Rising (l : List Int) : Prop := ∀ i, i < l.length → okAt l i
instance decRising (l : List Int) : Decidable (Rising l) := by unfold Rising; infer_instance
theorem okAt_of {l : List Int} {i : Nat} (h : i < l.length) (h1 : 0 ≤ l[i]) (h2 : l[i] < 32) (h3 : ∀ k : 0 < i, l[i - 1] < l[i]) : okAt l i := by
  unfold okAt
  have e : l.getD i 0 = l[i] := by simp [List.getD, h]
  refine ⟨by rw [e]; exact h1, by rw [e]; exact h2, fun k => ?_⟩
  have e2 : l.getD (i - 1) 0 = l[i - 1] := by simp [List.getD, show i - 1 < l.length by omega]
  rw [e, e2]
  exact h3 k
theorem okAt_get {l : List Int} {i : Nat} (h : i < l.length) (k : okAt l i) : 0 ≤ l[i] ∧ l[i] < 32 ∧ (∀ q : 0 < i, l[i - 1] < l[i]) := by
  unfold okAt at k
  have e : l.getD i 0 = l[i] := by simp [List.getD, h]
  rw [e] at k
  refine ⟨k.1, k.2.1, fun q => ?_⟩
  have e2 : l.getD (i - 1) 0 = l[i - 1] := by simp [List.getD, show i - 1 < l.length by omega]
  have := k.2.2 q
  rwa [e2] at this

def NodeV.held (N : NodeV) : Prop := 2 ≤ N.key ∧ N.key ≤ 2305843009213693949 ∧ (N.parent.length = 0 ∨ N.parent.length = 32)
instance decNodeHeld (N : NodeV) : Decidable N.held := by unfold NodeV.held; infer_instance
def NodeV.right (N : NodeV) : Prop :=
  if N.kind = 0 then N = NodeV.nought
  else if N.kind = 1 then (1 ≤ N.name.length ∧ N.name.length ≤ 16 ∧ N.held ∧ N.unm.length = 0)
  else if N.kind = 2 then (N.name.length = 0 ∧ N.held ∧ Rising N.unm)
  else False
instance decNodeRight (N : NodeV) : Decidable N.right := by unfold NodeV.right; infer_instance
theorem right_zero {N : NodeV} (h : N.kind = 0) : N.right ↔ N = NodeV.nought := by unfold NodeV.right; rw [if_pos h]
theorem right_one {N : NodeV} (h : N.kind = 1) : N.right ↔ (1 ≤ N.name.length ∧ N.name.length ≤ 16 ∧ N.held ∧ N.unm.length = 0) := by unfold NodeV.right; rw [if_neg (by omega), if_pos h]
theorem right_two {N : NodeV} (h : N.kind = 2) : N.right ↔ (N.name.length = 0 ∧ N.held ∧ Rising N.unm) := by unfold NodeV.right; rw [if_neg (by omega), if_neg (by omega), if_pos h]
theorem right_else {N : NodeV} (h0 : N.kind ≠ 0) (h1 : N.kind ≠ 1) (h2 : N.kind ≠ 2) : ¬ N.right := by unfold NodeV.right; rw [if_neg h0, if_neg h1, if_neg h2]; exact id
end Go.AM


