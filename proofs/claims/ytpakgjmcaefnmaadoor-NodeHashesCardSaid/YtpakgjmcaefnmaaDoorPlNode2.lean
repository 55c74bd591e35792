/- Plain laws of numbers and lists that the walks below need; no condition. -/
import Derived.Test.YtpakgjmcaefnmaaDoorPlNode
import Derived.Test.YtpakgjmcaefnmaaDoorPlRec
set_option linter.unusedSimpArgs false
set_option linter.unusedVariables false
set_option autoImplicit false
namespace Go.AM
open Go

/-! ### Pens: octets put, whether bad or not -/
theorem penNum_raw (k n : Nat) (st : List UInt8 × Bool) : penNum k n st = penRaw (be k n) st := rfl
theorem penSmall_raw {k n : Nat} (h : n < 256 ^ k) (st : List UInt8 × Bool) : penSmall k (n : Int) st = penRaw (be k n) st := by
  have e : (256 : Nat) ^ k = 2 ^ (8 * k) := by rw [Nat.pow_mul]
  have hh : (n : Int) < 2 ^ (8 * k) := by
    rw [e] at h
    exact_mod_cast h
  unfold penSmall
  rw [if_pos ⟨by omega, hh⟩]
  simp only [Int.toNat_natCast, penNum_raw]
theorem penRaw_raw (a b : List UInt8) (st : List UInt8 × Bool) : penRaw a (penRaw b st) = penRaw (b ++ a) st := by
  unfold penRaw
  by_cases h : st.2 = true
  · simp [h]
  · simp [h]
theorem penText_raw {k : Nat} {m : List UInt8} (h : m.length < 256 ^ k) (st : List UInt8 × Bool) : penText k m st = penRaw (be k m.length ++ m) st := by
  unfold penText
  rw [penSmall_raw h, penRaw_raw]
/-! ### A node's octets, and back -/
def intsText (l : List Int) : List UInt8 := (l.map fun x => be 1 x.toNat).flatten
def NodeV.text (N : NodeV) : List UInt8 :=
  if N.kind = 0 then be 1 0
  else if N.kind = 1 then be 1 1 ++ (be 1 N.name.length ++ N.name) ++ be 8 N.key ++ (be 1 N.parent.length ++ N.parent)
  else be 1 2 ++ be 8 N.key ++ (be 1 N.parent.length ++ N.parent) ++ be 1 N.unm.length ++ intsText N.unm

theorem rising_at {l : List Int} (h : Rising l) : ∀ i, i < l.length → (i : Int) ≤ l.getD i 0
  | 0, k => (h 0 k).1
  | i + 1, k => by
    have := rising_at h i (by omega)
    have h3 := (h (i + 1) k).2.2 (by omega)
    simp only [Nat.add_sub_cancel] at h3
    omega
theorem rising_len {l : List Int} (h : Rising l) : l.length ≤ 32 := by
  by_cases k : l.length = 0
  · omega
  · have h1 := rising_at h (l.length - 1) (by omega)
    have h2 := (h (l.length - 1) (by omega)).2.1
    omega
theorem rising_mem {l : List Int} (h : Rising l) {x : Int} (hx : x ∈ l) : 0 ≤ x ∧ x < 32 := by
  obtain ⟨i, hi, rfl⟩ := List.getElem_of_mem hx
  have := okAt_get hi (h i hi)
  exact ⟨this.1, this.2.1⟩

theorem intsText_len : ∀ (l : List Int), (intsText l).length = l.length
  | [] => rfl
  | x :: l => by
    have := intsText_len l
    simp only [intsText, List.map_cons, List.flatten_cons, List.length_append, length_be, List.length_cons] at *
    omega
theorem intsText_snoc (l : List Int) (x : Int) : intsText (l ++ [x]) = intsText l ++ be 1 x.toNat := by
  simp [intsText]

theorem node_kind {N : NodeV} (h : N.right) : N.kind = 0 ∨ N.kind = 1 ∨ N.kind = 2 := by
  unfold NodeV.right at h
  split at h
  · left; assumption
  · split at h
    · right; left; assumption
    · split at h
      · right; right; assumption
      · exact h.elim

theorem NodeV.text_len {N : NodeV} (h : N.right) : N.text.length ≤ 100 := by
  obtain ⟨k, m, y, p, u⟩ := N
  rcases node_kind h with hk | hk | hk
  · simp only at hk
    simp [NodeV.text, hk]
  · obtain ⟨h1, h2, ⟨h3, h4, h5⟩, h6⟩ := (right_one hk).1 h
    simp only at hk h1 h2 h3 h4 h5 h6
    simp [NodeV.text, hk]
    omega
  · obtain ⟨h1, ⟨h3, h4, h5⟩, h6⟩ := (right_two hk).1 h
    simp only at hk h1 h3 h4 h5 h6
    have hu := rising_len h6
    simp [NodeV.text, hk, intsText_len]
    omega

/-! ### A reader: an eye at p, the result at o2, the variable at o3 -/
structure RdS (s s1 : AS) (p o2 o3 : Nat) (ce z cs : List AV) : Prop where
  le : (s.drop p).le s1
  eye : s1.objs p = some ce
  res : s1.objs o2 = some z
  var : s1.objs o3 = some cs
  n2 : s.objs o2 = none
  n3 : s.objs o3 = none
  p2 : p ≠ o2
  p3 : p ≠ o3
  d : o2 ≠ o3
theorem RdS.gain {s s1 : AS} {p o2 o3 : Nat} {ce z cs : List AV} (h : RdS s s1 p o2 o3 ce z cs) {t : Nat} (ht : s.own t = none) (e : Nat) : RdS s (s1.gain t e) p o2 o3 ce z cs :=
  ⟨AS.le_gain h.le (by simpa [AS.drop] using ht) e, h.eye, h.res, h.var, h.n2, h.n3, h.p2, h.p3, h.d⟩
theorem RdS.out {s s1 : AS} {p o2 o3 : Nat} {ce z cs : List AV} (h : RdS s s1 p o2 o3 ce z cs) : (s.set p ce).le s1 := AS.set_le_of h.le h.eye
theorem RdS.own_none {s s1 : AS} {p o2 o3 : Nat} {ce z cs : List AV} (h : RdS s s1 p o2 o3 ce z cs) {t : Nat} (ht : s1.own t = none) : s.own t = none := by
  cases h0 : s.own t with
  | none => rfl
  | some e =>
    have := h.le.own t e (by simpa [AS.drop] using h0)
    rw [ht] at this
    cases this
/-- A slice of whole numbers that grows. -/
def IBuf (s0 s : AS) (x : AV) (l : List Int) : Prop := (x = nilS ∧ l = []) ∨ ∃ t e, x = intsV l (.own t e) ∧ s.own t = some e ∧ s0.own t = none
theorem IBuf.weak {s0 s : AS} {x : AV} {l : List Int} (h : IBuf s0 s x l) : x.weak (intsV l .any) := by
  rcases h with ⟨rfl, rfl⟩ | ⟨t, e, rfl, _, _⟩
  · exact AV.weak_nil
  · exact AV.weak_any
end Go.AM


