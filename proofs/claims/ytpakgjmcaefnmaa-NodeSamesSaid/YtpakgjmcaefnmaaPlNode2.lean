/- Plain laws of numbers and lists that the walks below need; no condition. -/
import Derived.Test.YtpakgjmcaefnmaaPlNode
import Derived.Test.YtpakgjmcaefnmaaPlRec
set_option linter.unusedSimpArgs false
set_option linter.unusedVariables false
set_option autoImplicit false
namespace Go.AM
open Go

/-! ### Pens: octets put, whether bad or not -/
theorem penNum_raw (k n : Nat) (st : List UInt8 × Bool) : penNum k n st = penRaw (be k n) st := rfl
theorem penSmall_raw {k n : Nat} (h : n < 256 ^ k) (st : List UInt8 × Bool) : penSmall k (n : Int) st = penRaw (be k n) st := by
  have e : (256 : Nat) ^ k = 2 ^ (8 * k) := by rw [Nat.pow_mul]
  have hh : (n : Int) < 2 ^ (8 * k) := by
    rw [e] at h
    exact_mod_cast h
  unfold penSmall
  rw [if_pos ⟨by omega, hh⟩]
  simp only [Int.toNat_natCast, penNum_raw]
theorem penRaw_raw (a b : List UInt8) (st : List UInt8 × Bool) : penRaw a (penRaw b st) = penRaw (b ++ a) st := by
  unfold penRaw
  by_cases h : st.2 = true
  · simp [h]
  · simp [h]
theorem penText_raw {k : Nat} {m : List UInt8} (h : m.length < 256 ^ k) (st : List UInt8 × Bool) : penText k m st = penRaw (be k m.length ++ m) st := by
  unfold penText
  rw [penSmall_raw h, penRaw_raw]
theorem penRaw_nil (st : List UInt8 × Bool) : penRaw [] st = st := by
  unfold penRaw
  split
  · rfl
  · rename_i h
    obtain ⟨a, b⟩ := st
    simp at h
    simp [h]

/-! ### A node's octets, and back -/
def intsText (l : List Int) : List UInt8 := (l.map fun x => be 1 x.toNat).flatten
def NodeV.text (N : NodeV) : List UInt8 :=
  if N.kind = 0 then be 1 0
  else if N.kind = 1 then be 1 1 ++ (be 1 N.name.length ++ N.name) ++ be 8 N.key ++ (be 1 N.parent.length ++ N.parent)
  else be 1 2 ++ be 8 N.key ++ (be 1 N.parent.length ++ N.parent) ++ be 1 N.unm.length ++ intsText N.unm

def eyeInts : Nat → EyeSt → List Int × EyeSt
  | 0, st => ([], st)
  | n + 1, st => ((eyeInts n st).1 ++ [((eyeNum 1 (eyeInts n st).2).1 : Int)], (eyeNum 1 (eyeInts n st).2).2)
theorem eyeInts_len : ∀ (n : Nat) (st : EyeSt), (eyeInts n st).1.length = n
  | 0, _ => rfl
  | n + 1, st => by simp [eyeInts, eyeInts_len n st]
theorem eyeInts_left : ∀ (n : Nat) (st : EyeSt), (eyeInts n st).2.1.length ≤ st.1.length
  | 0, _ => Nat.le_refl _
  | n + 1, st => Nat.le_trans (eyeNum_len _ _) (eyeInts_left n st)

def nodeB (k : Nat) (st : EyeSt) : List UInt8 × EyeSt := if k = 1 then eyeText 1 16 st else ([], st)
def nodeC (k : Nat) (st : EyeSt) : Nat × EyeSt := if k = 1 ∨ k = 2 then eyeNum 8 st else (0, st)
def nodeD (k : Nat) (st : EyeSt) : List UInt8 × EyeSt := if k = 1 ∨ k = 2 then eyeText 1 32 st else ([], st)
def nodeE (k : Nat) (st : EyeSt) : List Int × EyeSt := if k = 2 then eyeInts (eyeNum 1 st).1 (eyeNum 1 st).2 else ([], st)
def nodeF (N : NodeV) (st : EyeSt) : EyeSt := (st.1, if ¬ N.right ∧ st.2 = 0 then 12 else st.2)
def nodeRaw (st : EyeSt) : NodeV × EyeSt :=
  let a := eyeNum 1 st
  let b := nodeB a.1 a.2
  let c := nodeC a.1 b.2
  let d := nodeD a.1 c.2
  let e := nodeE a.1 d.2
  (⟨a.1, b.1, c.1, d.1, e.1⟩, e.2)
def nodeRead (st : EyeSt) : NodeV × EyeSt :=
  let q := nodeRaw st
  (if (nodeF q.1 q.2).2 = 0 then q.1 else NodeV.nought, nodeF q.1 q.2)

theorem nodeB_left (k : Nat) (st : EyeSt) : (nodeB k st).2.1.length ≤ st.1.length := by
  unfold nodeB; split
  · exact (eyeText_len _ _ _).2
  · exact Nat.le_refl _
theorem nodeC_left (k : Nat) (st : EyeSt) : (nodeC k st).2.1.length ≤ st.1.length := by
  unfold nodeC; split
  · exact eyeNum_len _ _
  · exact Nat.le_refl _
theorem nodeD_left (k : Nat) (st : EyeSt) : (nodeD k st).2.1.length ≤ st.1.length := by
  unfold nodeD; split
  · exact (eyeText_len _ _ _).2
  · exact Nat.le_refl _
theorem nodeE_left (k : Nat) (st : EyeSt) : (nodeE k st).2.1.length ≤ st.1.length := by
  unfold nodeE; split
  · exact Nat.le_trans (eyeInts_left _ _) (eyeNum_len _ _)
  · exact Nat.le_refl _
theorem nodeE_len (k : Nat) (st : EyeSt) : (nodeE k st).1.length < 256 := by
  unfold nodeE; split
  · rw [eyeInts_len]; exact Nat.lt_of_lt_of_le (eyeNum_lt 1 _) (by decide)
  · simp
theorem nodeRead_left (st : EyeSt) : (nodeRead st).2.1.length ≤ st.1.length := by
  simp only [nodeRead, nodeF, nodeRaw]
  exact Nat.le_trans (nodeE_left _ _) (Nat.le_trans (nodeD_left _ _) (Nat.le_trans (nodeC_left _ _) (Nat.le_trans (nodeB_left _ _) (eyeNum_len _ _))))
theorem nodeRead_unm (st : EyeSt) : (nodeRead st).1.unm.length < 256 := by
  simp only [nodeRead]
  split
  · exact nodeE_len _ _
  · simp [NodeV.nought]

theorem rising_at {l : List Int} (h : Rising l) : ∀ i, i < l.length → (i : Int) ≤ l.getD i 0
  | 0, k => (h 0 k).1
  | i + 1, k => by
    have := rising_at h i (by omega)
    have h3 := (h (i + 1) k).2.2 (by omega)
    simp only [Nat.add_sub_cancel] at h3
    omega
theorem rising_len {l : List Int} (h : Rising l) : l.length ≤ 32 := by
  by_cases k : l.length = 0
  · omega
  · have h1 := rising_at h (l.length - 1) (by omega)
    have h2 := (h (l.length - 1) (by omega)).2.1
    omega
theorem rising_mem {l : List Int} (h : Rising l) {x : Int} (hx : x ∈ l) : 0 ≤ x ∧ x < 32 := by
  obtain ⟨i, hi, rfl⟩ := List.getElem_of_mem hx
  have := okAt_get hi (h i hi)
  exact ⟨this.1, this.2.1⟩

theorem intsText_len : ∀ (l : List Int), (intsText l).length = l.length
  | [] => rfl
  | x :: l => by
    have := intsText_len l
    simp only [intsText, List.map_cons, List.flatten_cons, List.length_append, length_be, List.length_cons] at *
    omega
theorem intsText_snoc (l : List Int) (x : Int) : intsText (l ++ [x]) = intsText l ++ be 1 x.toNat := by
  simp [intsText]

theorem eyeInts_text {l : List Int} (hl : ∀ x ∈ l, 0 ≤ x ∧ x < 256) (rest : List UInt8) : ∀ n, n ≤ l.length → eyeInts n (intsText l ++ rest, 0) = (l.take n, (intsText (l.drop n) ++ rest, 0))
  | 0, _ => by simp [eyeInts]
  | n + 1, h => by
    have ih := eyeInts_text hl rest n (by omega)
    have hn : n < l.length := by omega
    have hx := hl l[n] (List.getElem_mem hn)
    have e : intsText (l.drop n) = be 1 (l[n]).toNat ++ intsText (l.drop (n + 1)) := by
      rw [List.drop_eq_getElem_cons hn]
      simp only [intsText, List.map_cons, List.flatten_cons]
    have e2 : eyeNum 1 (intsText (l.drop n) ++ rest, 0) = ((l[n]).toNat, intsText (l.drop (n + 1)) ++ rest, 0) := by
      rw [e, List.append_assoc]
      exact eyeNum_be (by omega)
    simp only [eyeInts, ih, e2]
    rw [List.take_succ_eq_append_getElem hn]
    congr 2
    congr 1
    omega

theorem nought_right : NodeV.nought.right := by decide
theorem node_kind {N : NodeV} (h : N.right) : N.kind = 0 ∨ N.kind = 1 ∨ N.kind = 2 := by
  unfold NodeV.right at h
  split at h
  · left; assumption
  · split at h
    · right; left; assumption
    · split at h
      · right; right; assumption
      · exact h.elim

theorem nodeRaw_text {N : NodeV} (h : N.right) (rest : List UInt8) : nodeRaw (N.text ++ rest, 0) = (N, rest, 0) := by
  obtain ⟨k, m, y, p, u⟩ := N
  rcases node_kind h with hk | hk | hk
  · have h1 := (right_zero hk).1 h
    rw [h1]
    have e1 : eyeNum 1 (be 1 0 ++ rest, 0) = (0, rest, 0) := eyeNum_be (by decide)
    simp only [nodeRaw, NodeV.text, NodeV.nought, if_true, e1, nodeB, nodeC, nodeD, nodeE]
    simp
  · obtain ⟨h1, h2, ⟨h3, h4, h5⟩, h6⟩ := (right_one hk).1 h
    simp only at hk h1 h2 h3 h4 h5 h6
    subst hk
    obtain rfl : u = [] := List.eq_nil_of_length_eq_zero h6
    have et : NodeV.text ⟨1, m, y, p, []⟩ ++ rest = be 1 1 ++ (be 1 m.length ++ m ++ (be 8 y ++ (be 1 p.length ++ p ++ rest))) := by
      simp [NodeV.text]
    have e1 : eyeNum 1 (be 1 1 ++ (be 1 m.length ++ m ++ (be 8 y ++ (be 1 p.length ++ p ++ rest))), 0) = (1, _, 0) := eyeNum_be (by decide)
    have e2 : eyeText 1 16 (be 1 m.length ++ m ++ (be 8 y ++ (be 1 p.length ++ p ++ rest)), 0) = (m, _, 0) := eyeText_be (by omega) (by omega)
    have e3 : eyeNum 8 (be 8 y ++ (be 1 p.length ++ p ++ rest), 0) = (y, _, 0) := eyeNum_be (by omega)
    have e4 : eyeText 1 32 (be 1 p.length ++ p ++ rest, 0) = (p, rest, 0) := eyeText_be (by omega) (by omega)
    rw [et]
    simp only [nodeRaw, e1, nodeB, nodeC, nodeD, nodeE, if_true, true_or, e2, e3, e4]
    simp
  · obtain ⟨h1, ⟨h3, h4, h5⟩, h6⟩ := (right_two hk).1 h
    simp only at hk h1 h3 h4 h5 h6
    subst hk
    obtain rfl : m = [] := List.eq_nil_of_length_eq_zero h1
    have hu := rising_len h6
    have et : NodeV.text ⟨2, [], y, p, u⟩ ++ rest = be 1 2 ++ (be 8 y ++ (be 1 p.length ++ p ++ (be 1 u.length ++ (intsText u ++ rest)))) := by
      simp [NodeV.text]
    have e1 : eyeNum 1 (be 1 2 ++ (be 8 y ++ (be 1 p.length ++ p ++ (be 1 u.length ++ (intsText u ++ rest)))), 0) = (2, _, 0) := eyeNum_be (by decide)
    have e3 : eyeNum 8 (be 8 y ++ (be 1 p.length ++ p ++ (be 1 u.length ++ (intsText u ++ rest))), 0) = (y, _, 0) := eyeNum_be (by omega)
    have e4 : eyeText 1 32 (be 1 p.length ++ p ++ (be 1 u.length ++ (intsText u ++ rest)), 0) = (p, _, 0) := eyeText_be (by omega) (by omega)
    have e5 : eyeNum 1 (be 1 u.length ++ (intsText u ++ rest), 0) = (u.length, _, 0) := eyeNum_be (by omega)
    have e6 : eyeInts u.length (intsText u ++ rest, 0) = (u, rest, 0) := by
      rw [eyeInts_text (fun x hx => by have := rising_mem h6 hx; omega) rest _ (Nat.le_refl _)]
      simp [intsText]
    rw [et]
    simp only [nodeRaw, e1, nodeB, nodeC, nodeD, nodeE, if_true, or_true, e3, e4, e5, e6, show ¬ (2 : Nat) = 1 from by decide, if_false]
    simp
theorem nodeRead_text {N : NodeV} (h : N.right) (rest : List UInt8) : nodeRead (N.text ++ rest, 0) = (N, rest, 0) := by
  simp only [nodeRead, nodeRaw_text h, nodeF, h, not_true_eq_false, false_and, if_false, if_true]

theorem NodeV.text_len {N : NodeV} (h : N.right) : N.text.length ≤ 100 := by
  obtain ⟨k, m, y, p, u⟩ := N
  rcases node_kind h with hk | hk | hk
  · simp only at hk
    simp [NodeV.text, hk]
  · obtain ⟨h1, h2, ⟨h3, h4, h5⟩, h6⟩ := (right_one hk).1 h
    simp only at hk h1 h2 h3 h4 h5 h6
    simp [NodeV.text, hk]
    omega
  · obtain ⟨h1, ⟨h3, h4, h5⟩, h6⟩ := (right_two hk).1 h
    simp only at hk h1 h3 h4 h5 h6
    have hu := rising_len h6
    simp [NodeV.text, hk, intsText_len]
    omega

/-! ### A reader: an eye at p, the result at o2, the variable at o3 -/
structure RdS (s s1 : AS) (p o2 o3 : Nat) (ce z cs : List AV) : Prop where
  le : (s.drop p).le s1
  eye : s1.objs p = some ce
  res : s1.objs o2 = some z
  var : s1.objs o3 = some cs
  n2 : s.objs o2 = none
  n3 : s.objs o3 = none
  p2 : p ≠ o2
  p3 : p ≠ o3
  d : o2 ≠ o3
theorem AS.drop_objs_none {s : AS} {p o : Nat} (h : s.objs o = none) : (s.drop p).objs o = none := by
  simp only [AS.drop, upd]; split
  · rfl
  · exact h
theorem AS.drop_self (s : AS) (p : Nat) : (s.drop p).objs p = none := by simp [AS.drop]
theorem RdS.setEye {s s1 : AS} {p o2 o3 : Nat} {ce z cs : List AV} (h : RdS s s1 p o2 o3 ce z cs) (ce' : List AV) : RdS s (s1.set p ce') p o2 o3 ce' z cs :=
  ⟨AS.le_set h.le (AS.drop_self _ _) _, AS.set_objs_same _ _ _, by rw [AS.set_objs_ne _ h.p2.symm]; exact h.res, by rw [AS.set_objs_ne _ h.p3.symm]; exact h.var, h.n2, h.n3, h.p2, h.p3, h.d⟩
theorem RdS.setRes {s s1 : AS} {p o2 o3 : Nat} {ce z cs : List AV} (h : RdS s s1 p o2 o3 ce z cs) (z' : List AV) : RdS s (s1.set o2 z') p o2 o3 ce z' cs :=
  ⟨AS.le_set h.le (AS.drop_objs_none h.n2) _, by rw [AS.set_objs_ne _ h.p2]; exact h.eye, AS.set_objs_same _ _ _, by rw [AS.set_objs_ne _ h.d.symm]; exact h.var, h.n2, h.n3, h.p2, h.p3, h.d⟩
theorem RdS.setVar {s s1 : AS} {p o2 o3 : Nat} {ce z cs : List AV} (h : RdS s s1 p o2 o3 ce z cs) (cs' : List AV) : RdS s (s1.set o3 cs') p o2 o3 ce z cs' :=
  ⟨AS.le_set h.le (AS.drop_objs_none h.n3) _, by rw [AS.set_objs_ne _ h.p3]; exact h.eye, by rw [AS.set_objs_ne _ h.d]; exact h.res, AS.set_objs_same _ _ _, h.n2, h.n3, h.p2, h.p3, h.d⟩
theorem RdS.gain {s s1 : AS} {p o2 o3 : Nat} {ce z cs : List AV} (h : RdS s s1 p o2 o3 ce z cs) {t : Nat} (ht : s.own t = none) (e : Nat) : RdS s (s1.gain t e) p o2 o3 ce z cs :=
  ⟨AS.le_gain h.le (by simpa [AS.drop] using ht) e, h.eye, h.res, h.var, h.n2, h.n3, h.p2, h.p3, h.d⟩
theorem RdS.out {s s1 : AS} {p o2 o3 : Nat} {ce z cs : List AV} (h : RdS s s1 p o2 o3 ce z cs) : (s.set p ce).le s1 := AS.set_le_of h.le h.eye
theorem RdS.own_none {s s1 : AS} {p o2 o3 : Nat} {ce z cs : List AV} (h : RdS s s1 p o2 o3 ce z cs) {t : Nat} (ht : s1.own t = none) : s.own t = none := by
  cases h0 : s.own t with
  | none => rfl
  | some e =>
    have := h.le.own t e (by simpa [AS.drop] using h0)
    rw [ht] at this
    cases this
/-- A slice of whole numbers that grows. -/
def IBuf (s0 s : AS) (x : AV) (l : List Int) : Prop := (x = nilS ∧ l = []) ∨ ∃ t e, x = intsV l (.own t e) ∧ s.own t = some e ∧ s0.own t = none
theorem IBuf.weak {s0 s : AS} {x : AV} {l : List Int} (h : IBuf s0 s x l) : x.weak (intsV l .any) := by
  rcases h with ⟨rfl, rfl⟩ | ⟨t, e, rfl, _, _⟩
  · exact AV.weak_nil
  · exact AV.weak_any
end Go.AM

